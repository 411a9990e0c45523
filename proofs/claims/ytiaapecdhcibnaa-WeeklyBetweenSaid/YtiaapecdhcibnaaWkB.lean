/- Weekly: rows of alarms: cloned, searched. -/
import Derived.Test.YtiaapecdhcibnaaWkA
namespace Go.Proofs.Wk
open Go Go.Sp Go.Wk
set_option linter.unusedVariables false
set_option linter.unusedSimpArgs false
set_option linter.unnecessarySimpa false
set_option maxRecDepth 100000
noncomputable def bd18 : Code := (Try.f18.body).getD .skip
noncomputable def kt18_0 : List Item := .code (pick [1] bd18) :: []
noncomputable def pt18_0 : List Item := .code (pick [0] bd18) :: kt18_0
noncomputable def opt18_0 : Array Oper := opsOf (pick [0] bd18)
noncomputable def kt18_1 : List Item := .code (pick [1, 1] bd18) :: []
noncomputable def kt18_2 : List Item := .code (pick [1, 0, 1] bd18) :: kt18_1
noncomputable def pt18_1 : List Item := .code (pick [1, 0, 0] bd18) :: kt18_2
noncomputable def opt18_1 : Array Oper := opsOf (pick [1, 0, 0] bd18)
noncomputable def pt18_2 : List Item := .code (pick [1, 0, 1] bd18) :: kt18_1
noncomputable def kt18_3 : List Item := .code (pick [1, 0, 1, 0, 1] bd18) :: kt18_1
noncomputable def pt18_3 : List Item := .code (pick [1, 0, 1, 0, 0] bd18) :: kt18_3
noncomputable def opt18_3 : Array Oper := opsOf (pick [1, 0, 1, 0, 0] bd18)
noncomputable def kt18_4 : List Item := .code (pick [1, 1, 1] bd18) :: []
noncomputable def pt18_4 : List Item := .code (pick [1, 1, 0] bd18) :: kt18_4
noncomputable def opt18_4 : Array Oper := opsOf (pick [1, 1, 0] bd18)
noncomputable def pt18_5 : List Item := .code (pick [1, 0, 1, 0, 1] bd18) :: kt18_1
noncomputable def pt18_6 : List Item := .code (pick [1, 1, 1] bd18) :: []
theorem cloneA (S : Option Addr) (n cap : Nat) (l : List Alarm) (hl : l.length = n) (hn : n ≤ 1000) : Ctr Try.prog 18 #[.slice S n cap] [Grow S cap 30 4 n (l.flatMap encA)] (fun v' => ex fun x : Option Addr × Nat => fact (v' = .slice x.1 n x.2) :: fact True :: [Grow x.1 x.2 30 4 n (l.flatMap encA), Grow S cap 30 4 n (l.flatMap encA)]) false := by
 refine spec_of_at (fn := Try.f18) (c := bd18) (args := [.slice S n cap]) (n := 8) (e := [(0, .slice S n cap)]) (k := pt18_0) Try.func18 (by kernel_rfl) (by kernel_rfl) (by kernel_rfl) (by kernel_rfl) 300 (by kernel_rfl) ?_
 refine At.learn (fun F w ho => Grow.cases (j := 0) ho rfl) (fun hS => ?_)
 rcases hS with ⟨rfl, rfl, rfl⟩ | ⟨b, rfl⟩
 ·refine At.region (ops := opt18_0) (m := 1) (k' := kt18_0) (by kernel_rfl) 300 (k'' := pt18_1) (by kernel_rfl) ?_
  refine SOps.pures 1 (i' := 1) (m' := 0) (e' := [(2, .slice none 0 0), (0, .slice none 0 0)]) (by intro u; kernel_rfl) ?_
  refine SOps.nil (.inl rfl) ?_
  refine At.pick [0] (e' := [(0, .slice none 0 0)]) (by kernel_rfl) ?_
  refine At.region (ops := opt18_1) (m := 2) (k' := kt18_2) (by kernel_rfl) 300 (k'' := pt18_2) (by kernel_rfl) ?_
  refine SOps.pures 2 (i' := 2) (m' := 0) (e' := [(4, .bool true), (3, .slice none 0 0), (0, .slice none 0 0)]) (by intro u; kernel_rfl) ?_
  refine SOps.nil (.inl rfl) ?_
  refine At.pick [0, 4] (e' := [(0, .slice none 0 0), (4, .bool true)]) (by kernel_rfl) ?_
  refine At.cond 300 true (c := .tmp 4) (k1 := pt18_3) (k2 := pt18_4) (by kernel_rfl) (by intro u; kernel_rfl) (fun _ => ?_) (fun h => by cases h)
  refine At.pick [] (e' := []) (by kernel_rfl) ?_
  refine At.region (ops := opt18_3) (m := 1) (k' := kt18_3) (by kernel_rfl) 300 (k'' := pt18_5) (by kernel_rfl) ?_
  refine SOps.pures 1 (i' := 1) (m' := 0) (e' := [(2, .slice none 0 0)]) (by intro u; kernel_rfl) ?_
  refine SOps.nil (.inl rfl) ?_
  refine At.ret1 (fn := Try.f18) (v := .slice none 0 0) (t := 2) (by kernel_rfl) Try.func18 (by kernel_rfl) (by kernel_rfl) (fun F w ho => ?_)
  obtain rfl : l = [] := List.eq_nil_of_length_eq_zero hl
  exact shutX (Option.none, 0) rfl trivial [0, 0] rfl (Grow.nil_ 30 4 ho)
 ·refine At.region (ops := opt18_0) (m := 1) (k' := kt18_0) (by kernel_rfl) 300 (k'' := pt18_1) (by kernel_rfl) ?_
  refine SOps.pures 1 (i' := 1) (m' := 0) (e' := [(2, .slice none 0 0), (0, .slice (some ⟨b, 0, none⟩) n cap)]) (by intro u; kernel_rfl) ?_
  refine SOps.nil (.inl rfl) ?_
  refine At.pick [0] (e' := [(0, .slice (some ⟨b, 0, none⟩) n cap)]) (by kernel_rfl) ?_
  refine At.region (ops := opt18_1) (m := 2) (k' := kt18_2) (by kernel_rfl) 300 (k'' := pt18_2) (by kernel_rfl) ?_
  refine SOps.pures 2 (i' := 2) (m' := 0) (e' := [(4, .bool false), (3, .slice (some ⟨b, 0, none⟩) n cap), (0, .slice (some ⟨b, 0, none⟩) n cap)]) (by intro u; kernel_rfl) ?_
  refine SOps.nil (.inl rfl) ?_
  refine At.pick [0, 4] (e' := [(0, .slice (some ⟨b, 0, none⟩) n cap), (4, .bool false)]) (by kernel_rfl) ?_
  refine At.cond 300 false (c := .tmp 4) (k1 := pt18_3) (k2 := pt18_4) (by kernel_rfl) (by intro u; kernel_rfl) (fun h => by cases h) (fun _ => ?_)
  refine At.pick [0] (e' := [(0, .slice (some ⟨b, 0, none⟩) n cap)]) (by kernel_rfl) ?_
  refine At.region (ops := opt18_4) (m := 4) (k' := kt18_4) (by kernel_rfl) 300 (k'' := pt18_6) (by kernel_rfl) ?_
  refine SOps.o (Op.new 5 30 [] (fun b => .slice (some ⟨b, 0, none⟩) 0 0) (by intro u b; kernel_rfl) ?_)
  intro bx1
  refine SOps.pures 1 (i' := 2) (m' := 2) (e' := [(6, .slice (some ⟨b, 0, none⟩) n cap), (5, .slice (some ⟨bx1, 0, none⟩) 0 0), (0, .slice (some ⟨b, 0, none⟩) n cap)]) (by intro u; kernel_rfl) ?_
  refine SOps.conseq1 (A := [Cells bx1 30 [], Grow (some ⟨b, 0, none⟩) cap 30 4 n (l.flatMap encA)]) (A' := [Grow (some ⟨bx1, 0, none⟩) 0 30 4 0 (([]).flatMap encA), Grow (some ⟨b, 0, none⟩) cap 30 4 n (l.flatMap encA)]) (fun F w ho => emptyRow_at (j := 0) (b := bx1) (ty := 30) (sz := 4) (A := [Cells bx1 30 [], Grow (some ⟨b, 0, none⟩) cap 30 4 n (l.flatMap encA)]) rfl rfl ho) ?_
  refine SOps.o (Op.appS 0 1 7 (sz := 4) (bytes := 32) (ty := 25) el_25 (l.flatMap encA) (l.flatMap encA) (n := 0) (q := n) (c := cap) (r := n) (by omega) rfl rfl (by intro u; kernel_rfl) (by rw [flat_len encA 4 (fun _ => rfl)] <;> first | omega | (simp only [List.length_cons, List.length_nil]; done) | (simp only [List.length_append, List.length_take, List.length_drop, List.length_cons, List.length_nil, List.length_set]; omega)) SrcOf.all (flat_one encA (fun _ => rfl) _) (by unfold maxLen; omega) (by omega) (by simp) ?_)
  intro Sx2 cx3
  refine SOps.pures 1 (i' := 4) (m' := 0) (e' := [(2, .slice Sx2 n cx3), (7, .slice Sx2 n cx3), (6, .slice (some ⟨b, 0, none⟩) n cap), (5, .slice (some ⟨bx1, 0, none⟩) 0 0), (0, .slice (some ⟨b, 0, none⟩) n cap)]) (by intro u; kernel_rfl) ?_
  refine SOps.nil (.inl rfl) ?_
  refine At.pick [2] (e' := [(2, .slice Sx2 n cx3)]) (by kernel_rfl) ?_
  refine At.ret1 (fn := Try.f18) (v := .slice Sx2 n cx3) (t := 2) (by kernel_rfl) Try.func18 (by kernel_rfl) (by kernel_rfl) (fun F w ho => ?_)
  exact shutX (p := fun _ => True) (Sx2, cx3) rfl trivial [0, 0] rfl ho
noncomputable def bd25 : Code := (Try.f25.body).getD .skip
noncomputable def kt25_0 : List Item := .code (pick [1, 1, 1, 1] bd25) :: []
noncomputable def kt25_1 : List Item := .inBlock 0 :: kt25_0
noncomputable def kt25_2 : List Item := .inLoop (pick [1, 1, 1, 0, 0, 0] bd25) :: kt25_1
noncomputable def kt25_3 : List Item := .code (pick [1, 1, 1, 0, 0, 0, 1] bd25) :: kt25_2
noncomputable def kt25_4 : List Item := .code (pick [1, 1, 1, 0, 0, 0, 0, 1] bd25) :: kt25_3
noncomputable def pt25_0 : List Item := .code (pick [1, 1, 1, 0, 0, 0, 0, 0] bd25) :: kt25_4
noncomputable def opt25_0 : Array Oper := opsOf (pick [1, 1, 1, 0, 0, 0, 0, 0] bd25)
noncomputable def pt25_1 : List Item := .code (pick [1, 1, 1, 0, 0, 0, 0, 1] bd25) :: kt25_3
noncomputable def kt25_5 : List Item := .inBlock 1 :: kt25_2
noncomputable def kt25_6 : List Item := .code (pick [1, 1, 1, 0, 0, 0, 1, 0, 1] bd25) :: kt25_5
noncomputable def pt25_2 : List Item := .code (pick [1, 1, 1, 0, 0, 0, 1, 0, 0] bd25) :: kt25_6
noncomputable def opt25_2 : Array Oper := opsOf (pick [1, 1, 1, 0, 0, 0, 1, 0, 0] bd25)
noncomputable def kt25_7 : List Item := .code (pick [1, 1, 1, 1, 1] bd25) :: []
noncomputable def pt25_3 : List Item := .code (pick [1, 1, 1, 1, 0] bd25) :: kt25_7
noncomputable def opt25_3 : Array Oper := opsOf (pick [1, 1, 1, 1, 0] bd25)
noncomputable def kt25_8 : List Item := .code (pick [1, 1, 1, 0, 0, 0, 1, 0, 1, 1] bd25) :: kt25_5
noncomputable def pt25_4 : List Item := .code (pick [1, 1, 1, 0, 0, 0, 1, 0, 1, 0] bd25) :: kt25_8
noncomputable def opt25_4 : Array Oper := opsOf (pick [1, 1, 1, 0, 0, 0, 1, 0, 1, 0] bd25)
noncomputable def pt25_5 : List Item := .code (pick [1, 1, 1, 0, 0, 0, 1, 0, 1, 1] bd25) :: kt25_5
noncomputable def pt25_6 : List Item := .code (pick [1, 1, 1, 0, 0, 0, 1, 0, 1, 1, 0] bd25) :: kt25_5
noncomputable def opt25_6 : Array Oper := opsOf (pick [1, 1, 1, 0, 0, 0, 1, 0, 1, 1, 0] bd25)
noncomputable def pt25_7 : List Item := .code (pick [1, 1, 1, 0, 0, 0, 1, 0, 1, 1, 1] bd25) :: kt25_5
noncomputable def opt25_7 : Array Oper := opsOf (pick [1, 1, 1, 0, 0, 0, 1, 0, 1, 1, 1] bd25)
noncomputable def pt25_8 : List Item := .code (pick [1, 1, 1, 1, 1] bd25) :: []
noncomputable def kt25_9 : List Item := .code (pick [1] bd25) :: []
noncomputable def pt25_9 : List Item := .code (pick [0] bd25) :: kt25_9
noncomputable def opt25_9 : Array Oper := opsOf (pick [0] bd25)
noncomputable def kt25_10 : List Item := .code (pick [1, 1] bd25) :: []
noncomputable def pt25_10 : List Item := .code (pick [1, 0] bd25) :: kt25_10
noncomputable def opt25_10 : Array Oper := opsOf (pick [1, 0] bd25)
noncomputable def kt25_11 : List Item := .code (pick [1, 1, 1] bd25) :: []
noncomputable def pt25_11 : List Item := .code (pick [1, 1, 0] bd25) :: kt25_11
noncomputable def opt25_11 : Array Oper := opsOf (pick [1, 1, 0] bd25)
theorem bsearch_loop (S : Option Addr) (n cap : Nat) (l : List Alarm) (hl : l.length = n) (hn : n ≤ 1000) (t : Int) (hs : ∀ p q, p < q → q < n → (l.getD p a0).id < (l.getD q a0).id) : ∀ (m i j : Nat), j - i < m → i ≤ j → j ≤ n → (∀ q, q < i → (l.getD q a0).id < t) → (∀ q, j ≤ q → q < n → t ≤ (l.getD q a0).id) → At ⟨Try.prog, 25, (fun v' => ex fun k : Nat => fact (v' = .tuple #[.int .i64 (k : Int), .bool (foundA l t k)]) :: fact (PosA l t k) :: [Grow S cap 30 4 n (l.flatMap encA)]), 49, false⟩ pt25_0 [(0, .slice S n cap), (1, .int .i64 t), (2, .func (.func 26) #[] #[]), (8, .int .i64 (n : Int)), (9, .int .i64 (i : Int)), (10, .int .i64 (j : Int))] [Grow S cap 30 4 n (l.flatMap encA)] := by
 intro m
 induction m with
 | zero => intro i j h; omega
 | succ m ih =>
  intro i j hm hij hj hlo hhi
  refine At.region (ops := opt25_0) (m := 3) (k' := kt25_4) (by kernel_rfl) 300 (k'' := pt25_1) (by kernel_rfl) ?_
  refine SOps.pures 3 (i' := 3) (m' := 0) (e' := [(17, .bool (decide ((i : Int) < (j : Int)))), (16, .int .i64 (j : Int)), (15, .int .i64 (i : Int)), (0, .slice S n cap), (1, .int .i64 t), (2, .func (.func 26) #[] #[]), (8, .int .i64 (n : Int)), (9, .int .i64 (i : Int)), (10, .int .i64 (j : Int))]) (by intro u; kernel_rfl) ?_
  refine SOps.nil (.inl rfl) ?_
  refine At.pick [0, 1, 2, 8, 9, 10, 17] (e' := [(0, .slice S n cap), (1, .int .i64 t), (2, .func (.func 26) #[] #[]), (8, .int .i64 (n : Int)), (9, .int .i64 (i : Int)), (10, .int .i64 (j : Int)), (17, .bool (decide ((i : Int) < (j : Int))))]) (by kernel_rfl) ?_
  refine At.split (fun zq => [(0, .slice S n cap), (1, .int .i64 t), (2, .func (.func 26) #[] #[]), (8, .int .i64 (n : Int)), (9, .int .i64 (i : Int)), (10, .int .i64 (j : Int)), (17, .bool zq)]) (decide ((i : Int) < (j : Int))) (fun hx1 => ?_) (fun hx1 => ?_)
  ·have hx1 : (i : Int) < (j : Int) := by simpa using hx1
   refine At.cond 300 true (c := .tmp 17) (k1 := pt25_2) (k2 := pt25_3) (by kernel_rfl) (by intro u; kernel_rfl) (fun _ => ?_) (fun h => by cases h)
   refine At.pick [0, 1, 2, 8, 9, 10] (e' := [(0, .slice S n cap), (1, .int .i64 t), (2, .func (.func 26) #[] #[]), (8, .int .i64 (n : Int)), (9, .int .i64 (i : Int)), (10, .int .i64 (j : Int))]) (by kernel_rfl) ?_
   refine At.region (ops := opt25_2) (m := 7) (k' := kt25_6) (by kernel_rfl) 300 (k'' := pt25_4) (by kernel_rfl) ?_
   refine SOps.pures 2 (i' := 2) (m' := 5) (e' := [(19, .int .i64 (j : Int)), (18, .int .i64 (i : Int)), (0, .slice S n cap), (1, .int .i64 t), (2, .func (.func 26) #[] #[]), (8, .int .i64 (n : Int)), (9, .int .i64 (i : Int)), (10, .int .i64 (j : Int))]) (by intro u; kernel_rfl) ?_
   refine SOps.v (Val.pe 20 (.int .i64 (IntKind.i64.wrap ((i : Int) + (j : Int)))) (.int .i64 ((i + j : Nat) : Int)) (by intro u; kernel_rfl) (i64_in (by omega) (by omega) (by omega))) ?_
   refine SOps.v (Val.pe 21 (.int .u64 (IntKind.u64.wrap ((i + j : Nat) : Int))) (.int .u64 ((i + j : Nat) : Int)) (by intro u; kernel_rfl) (u64_in rfl (by omega) (by omega))) ?_
   refine SOps.v (Val.pv 22 (vN (Op.shift .shr .u64 ((i + j : Nat) : Int) .u64 ((1 : Nat) : Int))) (.int .u64 (((i + j : Nat) : Int) / 2)) (by intro u; kernel_rfl) (shr_in (m := 2) (by decide) (by omega) (by decide) .u64 .u64 (by decide))) ?_
   obtain ⟨h, hh⟩ : ∃ h : Nat, h = (i + j) / 2 := ⟨_, rfl⟩
   refine SOps.v (Val.pe 23 (.int .i64 (IntKind.i64.wrap (((i : Int) + (j : Int)) / 2))) (.int .i64 (h : Int)) (by intro u; kernel_rfl) (i64_in (by omega) (by omega) (by omega))) ?_
   refine SOps.pures 1 (i' := 7) (m' := 0) (e' := [(11, .int .i64 (h : Int)), (23, .int .i64 (h : Int)), (22, .int .u64 (((i + j : Nat) : Int) / 2)), (21, .int .u64 ((i + j : Nat) : Int)), (20, .int .i64 ((i + j : Nat) : Int)), (19, .int .i64 (j : Int)), (18, .int .i64 (i : Int)), (0, .slice S n cap), (1, .int .i64 t), (2, .func (.func 26) #[] #[]), (8, .int .i64 (n : Int)), (9, .int .i64 (i : Int)), (10, .int .i64 (j : Int))]) (by intro u; kernel_rfl) ?_
   refine SOps.nil (.inl rfl) ?_
   refine At.pick [0, 1, 2, 8, 9, 10, 11] (e' := [(0, .slice S n cap), (1, .int .i64 t), (2, .func (.func 26) #[] #[]), (8, .int .i64 (n : Int)), (9, .int .i64 (i : Int)), (10, .int .i64 (j : Int)), (11, .int .i64 (h : Int))]) (by kernel_rfl) ?_
   refine At.region (ops := opt25_4) (m := 8) (k' := kt25_8) (by kernel_rfl) 300 (k'' := pt25_5) (by kernel_rfl) ?_
   refine SOps.pures 3 (i' := 3) (m' := 5) (e' := [(26, .int .i64 (h : Int)), (25, .slice S n cap), (24, .func (.func 26) #[] #[]), (0, .slice S n cap), (1, .int .i64 t), (2, .func (.func 26) #[] #[]), (8, .int .i64 (n : Int)), (9, .int .i64 (i : Int)), (10, .int .i64 (j : Int)), (11, .int .i64 (h : Int))]) (by intro u; kernel_rfl) ?_
   refine SOps.learn (fun F w ho => Grow.some (j := 0) ho rfl) (fun hS => ?_)
   refine SOps.v (Val.pv 27 (vN (Instr.indexAt 25 (.slice S n cap) (.int .i64 (h : Int)))) (.pointer (some ⟨(blk S), h * 4, none⟩)) (by intro u; kernel_rfl) (pv_indexO (el := 30) (sz := 4) (by kernel_rfl) (by kernel_rfl) (by omega) (by omega) (hS.1 (by omega)) (by omega))) ?_
   refine SOps.v (Val.ldN 0 28 30 (blk S) (h * 4) 4 [.int .i64 ((l.getD h a0).id), .int .i64 ((l.getD h a0).minute), .int .i64 ((l.getD h a0).days), .bool ((l.getD h a0).off)] rfl (by intro u; kernel_rfl) (by kernel_rfl) (by kernel_rfl) rfl ⟨(Rd.grow (flat_get encA 4 (fun _ => rfl) l h 0 (l.getD h a0) _ (getD_some (by omega)) rfl)), (Rd.grow (flat_get encA 4 (fun _ => rfl) l h 1 (l.getD h a0) _ (getD_some (by omega)) rfl)), (Rd.grow (flat_get encA 4 (fun _ => rfl) l h 2 (l.getD h a0) _ (getD_some (by omega)) rfl)), (Rd.grow (flat_get encA 4 (fun _ => rfl) l h 3 (l.getD h a0) _ (getD_some (by omega)) rfl)), trivial⟩) ?_
   refine SOps.pures 1 (i' := 6) (m' := 2) (e' := [(29, .int .i64 t), (28, .agg #[.int .i64 ((l.getD h a0).id), .int .i64 ((l.getD h a0).minute), .int .i64 ((l.getD h a0).days), .bool ((l.getD h a0).off)]), (27, .pointer (some ⟨(blk S), h * 4, none⟩)), (26, .int .i64 (h : Int)), (25, .slice S n cap), (24, .func (.func 26) #[] #[]), (0, .slice S n cap), (1, .int .i64 t), (2, .func (.func 26) #[] #[]), (8, .int .i64 (n : Int)), (9, .int .i64 (i : Int)), (10, .int .i64 (j : Int)), (11, .int .i64 (h : Int))]) (by intro u; kernel_rfl) ?_
   refine SOps.o (Op.callS 30 26 #[.agg #[.int .i64 ((l.getD h a0).id), .int .i64 ((l.getD h a0).minute), .int .i64 ((l.getD h a0).days), .bool ((l.getD h a0).off)], .int .i64 t] (.int .i64 (cmpI (l.getD h a0).id t)) [] (B := []) (D := [Grow S cap 30 4 n (l.flatMap encA)]) (by intro u; kernel_rfl) (placeF (l.getD h a0) t) (by first | exact .inr rfl | exact .inl rfl) (by kernel_rfl) ?_)
   refine SOps.pures 1 (i' := 8) (m' := 0) (e' := [(31, .bool (decide ((cmpI (l.getD h a0).id t) < 0))), (30, .int .i64 (cmpI (l.getD h a0).id t)), (29, .int .i64 t), (28, .agg #[.int .i64 ((l.getD h a0).id), .int .i64 ((l.getD h a0).minute), .int .i64 ((l.getD h a0).days), .bool ((l.getD h a0).off)]), (27, .pointer (some ⟨(blk S), h * 4, none⟩)), (26, .int .i64 (h : Int)), (25, .slice S n cap), (24, .func (.func 26) #[] #[]), (0, .slice S n cap), (1, .int .i64 t), (2, .func (.func 26) #[] #[]), (8, .int .i64 (n : Int)), (9, .int .i64 (i : Int)), (10, .int .i64 (j : Int)), (11, .int .i64 (h : Int))]) (by intro u; kernel_rfl) ?_
   refine SOps.nil (.inl rfl) ?_
   refine At.pick [0, 1, 2, 8, 9, 10, 11, 31] (e' := [(0, .slice S n cap), (1, .int .i64 t), (2, .func (.func 26) #[] #[]), (8, .int .i64 (n : Int)), (9, .int .i64 (i : Int)), (10, .int .i64 (j : Int)), (11, .int .i64 (h : Int)), (31, .bool (decide ((cmpI (l.getD h a0).id t) < 0)))]) (by kernel_rfl) ?_
   refine At.split (fun zq => [(0, .slice S n cap), (1, .int .i64 t), (2, .func (.func 26) #[] #[]), (8, .int .i64 (n : Int)), (9, .int .i64 (i : Int)), (10, .int .i64 (j : Int)), (11, .int .i64 (h : Int)), (31, .bool zq)]) (decide ((cmpI (l.getD h a0).id t) < 0)) (fun hx2 => ?_) (fun hx2 => ?_)
   ·have hx2 : (cmpI (l.getD h a0).id t) < 0 := by simpa using hx2
    refine At.cond 300 true (c := .tmp 31) (k1 := pt25_6) (k2 := pt25_7) (by kernel_rfl) (by intro u; kernel_rfl) (fun _ => ?_) (fun h => by cases h)
    refine At.pick [0, 1, 2, 8, 10, 11] (e' := [(0, .slice S n cap), (1, .int .i64 t), (2, .func (.func 26) #[] #[]), (8, .int .i64 (n : Int)), (10, .int .i64 (j : Int)), (11, .int .i64 (h : Int))]) (by kernel_rfl) ?_
    refine At.region (ops := opt25_6) (m := 3) (k' := kt25_5) (by kernel_rfl) 300 (k'' := pt25_0) (by kernel_rfl) ?_
    refine SOps.pures 1 (i' := 1) (m' := 2) (e' := [(32, .int .i64 (h : Int)), (0, .slice S n cap), (1, .int .i64 t), (2, .func (.func 26) #[] #[]), (8, .int .i64 (n : Int)), (10, .int .i64 (j : Int)), (11, .int .i64 (h : Int))]) (by intro u; kernel_rfl) ?_
    refine SOps.v (Val.pe 33 (.int .i64 (IntKind.i64.wrap ((h : Int) + 1))) (.int .i64 ((h + 1 : Nat) : Int)) (by intro u; kernel_rfl) (i64_in (by omega) (by omega) (by omega))) ?_
    refine SOps.pures 1 (i' := 3) (m' := 0) (e' := [(9, .int .i64 ((h + 1 : Nat) : Int)), (33, .int .i64 ((h + 1 : Nat) : Int)), (32, .int .i64 (h : Int)), (0, .slice S n cap), (1, .int .i64 t), (2, .func (.func 26) #[] #[]), (8, .int .i64 (n : Int)), (10, .int .i64 (j : Int)), (11, .int .i64 (h : Int))]) (by intro u; kernel_rfl) ?_
    refine SOps.nil (.inl rfl) ?_
    refine At.pick [0, 1, 2, 8, 9, 10] (e' := [(0, .slice S n cap), (1, .int .i64 t), (2, .func (.func 26) #[] #[]), (8, .int .i64 (n : Int)), (9, .int .i64 ((h + 1 : Nat) : Int)), (10, .int .i64 (j : Int))]) (by kernel_rfl) ?_
    refine At.keep [0] (B := [Grow S cap 30 4 n (l.flatMap encA)]) (D := []) rfl ?_
    have hc := cmpI_neg (by assumption)
    refine ih (h + 1) j (by omega) (by omega) (by omega) (fun q h1 => ?_) hhi
    rcases Nat.lt_or_eq_of_le (Nat.le_of_lt_succ h1) with h3 | h3
    · have := hs q h h3 (by omega); omega
    · rw [h3]; omega
   ·have hx2 : (cmpI (l.getD h a0).id t) ≥ 0 := by simpa using hx2
    refine At.cond 300 false (c := .tmp 31) (k1 := pt25_6) (k2 := pt25_7) (by kernel_rfl) (by intro u; kernel_rfl) (fun h => by cases h) (fun _ => ?_)
    refine At.pick [0, 1, 2, 8, 9, 11] (e' := [(0, .slice S n cap), (1, .int .i64 t), (2, .func (.func 26) #[] #[]), (8, .int .i64 (n : Int)), (9, .int .i64 (i : Int)), (11, .int .i64 (h : Int))]) (by kernel_rfl) ?_
    refine At.region (ops := opt25_7) (m := 2) (k' := kt25_5) (by kernel_rfl) 300 (k'' := pt25_0) (by kernel_rfl) ?_
    refine SOps.pures 2 (i' := 2) (m' := 0) (e' := [(10, .int .i64 (h : Int)), (34, .int .i64 (h : Int)), (0, .slice S n cap), (1, .int .i64 t), (2, .func (.func 26) #[] #[]), (8, .int .i64 (n : Int)), (9, .int .i64 (i : Int)), (11, .int .i64 (h : Int))]) (by intro u; kernel_rfl) ?_
    refine SOps.nil (.inl rfl) ?_
    refine At.pick [0, 1, 2, 8, 9, 10] (e' := [(0, .slice S n cap), (1, .int .i64 t), (2, .func (.func 26) #[] #[]), (8, .int .i64 (n : Int)), (9, .int .i64 (i : Int)), (10, .int .i64 (h : Int))]) (by kernel_rfl) ?_
    refine At.keep [0] (B := [Grow S cap 30 4 n (l.flatMap encA)]) (D := []) rfl ?_
    have hc := cmpI_nn (by assumption)
    refine ih i h (by omega) (by omega) (by omega) hlo (fun q h1 h2 => ?_)
    rcases Nat.lt_or_eq_of_le h1 with h3 | h3
    · have := hs h q h3 h2; omega
    · rw [← h3]; omega
  ·have hx1 : (i : Int) ≥ (j : Int) := by simpa using hx1
   refine At.cond 300 false (c := .tmp 17) (k1 := pt25_2) (k2 := pt25_3) (by kernel_rfl) (by intro u; kernel_rfl) (fun h => by cases h) (fun _ => ?_)
   refine At.pick [0, 1, 2, 8, 9] (e' := [(0, .slice S n cap), (1, .int .i64 t), (2, .func (.func 26) #[] #[]), (8, .int .i64 (n : Int)), (9, .int .i64 (i : Int))]) (by kernel_rfl) ?_
   refine At.region (ops := opt25_3) (m := 16) (k' := kt25_7) (by kernel_rfl) 300 (k'' := pt25_8) (by kernel_rfl) ?_
   refine SOps.pures 5 (i' := 5) (m' := 11) (e' := [(39, .bool (decide ((i : Int) < (n : Int)))), (38, .bool (decide ((i : Int) < (n : Int)))), (37, .int .i64 (n : Int)), (36, .int .i64 (i : Int)), (35, .int .i64 (i : Int)), (0, .slice S n cap), (1, .int .i64 t), (2, .func (.func 26) #[] #[]), (8, .int .i64 (n : Int)), (9, .int .i64 (i : Int))]) (by intro u; kernel_rfl) ?_
   refine SOps.split (fun zq => [(39, .bool zq), (38, .bool zq), (37, .int .i64 (n : Int)), (36, .int .i64 (i : Int)), (35, .int .i64 (i : Int)), (0, .slice S n cap), (1, .int .i64 t), (2, .func (.func 26) #[] #[]), (8, .int .i64 (n : Int)), (9, .int .i64 (i : Int))]) (decide ((i : Int) < (n : Int))) (fun hx2 => ?_) (fun hx2 => ?_)
   ·have hx2 : (i : Int) < (n : Int) := by simpa using hx2
    refine SOps.pures 3 (i' := 8) (m' := 8) (e' := [(42, .int .i64 (i : Int)), (41, .slice S n cap), (40, .func (.func 26) #[] #[]), (39, .bool true), (38, .bool true), (37, .int .i64 (n : Int)), (36, .int .i64 (i : Int)), (35, .int .i64 (i : Int)), (0, .slice S n cap), (1, .int .i64 t), (2, .func (.func 26) #[] #[]), (8, .int .i64 (n : Int)), (9, .int .i64 (i : Int))]) (by intro u; kernel_rfl) ?_
    refine SOps.learn (fun F w ho => Grow.some (j := 0) ho rfl) (fun hS => ?_)
    refine SOps.v (Val.pv 43 (vN (Instr.indexAt 25 (.slice S n cap) (.int .i64 (i : Int)))) (.pointer (some ⟨(blk S), i * 4, none⟩)) (by intro u; kernel_rfl) (pv_indexO (el := 30) (sz := 4) (by kernel_rfl) (by kernel_rfl) (by omega) (by omega) (hS.1 (by omega)) (by omega))) ?_
    refine SOps.v (Val.ldN 0 44 30 (blk S) (i * 4) 4 [.int .i64 ((l.getD i a0).id), .int .i64 ((l.getD i a0).minute), .int .i64 ((l.getD i a0).days), .bool ((l.getD i a0).off)] rfl (by intro u; kernel_rfl) (by kernel_rfl) (by kernel_rfl) rfl ⟨(Rd.grow (flat_get encA 4 (fun _ => rfl) l i 0 (l.getD i a0) _ (getD_some (by omega)) rfl)), (Rd.grow (flat_get encA 4 (fun _ => rfl) l i 1 (l.getD i a0) _ (getD_some (by omega)) rfl)), (Rd.grow (flat_get encA 4 (fun _ => rfl) l i 2 (l.getD i a0) _ (getD_some (by omega)) rfl)), (Rd.grow (flat_get encA 4 (fun _ => rfl) l i 3 (l.getD i a0) _ (getD_some (by omega)) rfl)), trivial⟩) ?_
    refine SOps.pures 1 (i' := 11) (m' := 5) (e' := [(45, .int .i64 t), (44, .agg #[.int .i64 ((l.getD i a0).id), .int .i64 ((l.getD i a0).minute), .int .i64 ((l.getD i a0).days), .bool ((l.getD i a0).off)]), (43, .pointer (some ⟨(blk S), i * 4, none⟩)), (42, .int .i64 (i : Int)), (41, .slice S n cap), (40, .func (.func 26) #[] #[]), (39, .bool true), (38, .bool true), (37, .int .i64 (n : Int)), (36, .int .i64 (i : Int)), (35, .int .i64 (i : Int)), (0, .slice S n cap), (1, .int .i64 t), (2, .func (.func 26) #[] #[]), (8, .int .i64 (n : Int)), (9, .int .i64 (i : Int))]) (by intro u; kernel_rfl) ?_
    refine SOps.o (Op.callS 46 26 #[.agg #[.int .i64 ((l.getD i a0).id), .int .i64 ((l.getD i a0).minute), .int .i64 ((l.getD i a0).days), .bool ((l.getD i a0).off)], .int .i64 t] (.int .i64 (cmpI (l.getD i a0).id t)) [] (B := []) (D := [Grow S cap 30 4 n (l.flatMap encA)]) (by intro u; kernel_rfl) (placeF (l.getD i a0) t) (by first | exact .inr rfl | exact .inl rfl) (by kernel_rfl) ?_)
    refine SOps.pures 4 (i' := 16) (m' := 0) (e' := [(7, .bool ((cmpI (l.getD i a0).id t) == 0)), (6, .int .i64 (i : Int)), (48, .bool ((cmpI (l.getD i a0).id t) == 0)), (47, .bool ((cmpI (l.getD i a0).id t) == 0)), (46, .int .i64 (cmpI (l.getD i a0).id t)), (45, .int .i64 t), (44, .agg #[.int .i64 ((l.getD i a0).id), .int .i64 ((l.getD i a0).minute), .int .i64 ((l.getD i a0).days), .bool ((l.getD i a0).off)]), (43, .pointer (some ⟨(blk S), i * 4, none⟩)), (42, .int .i64 (i : Int)), (41, .slice S n cap), (40, .func (.func 26) #[] #[]), (39, .bool true), (38, .bool true), (37, .int .i64 (n : Int)), (36, .int .i64 (i : Int)), (35, .int .i64 (i : Int)), (0, .slice S n cap), (1, .int .i64 t), (2, .func (.func 26) #[] #[]), (8, .int .i64 (n : Int)), (9, .int .i64 (i : Int))]) (by intro u; kernel_rfl) ?_
    refine SOps.nil (.inl rfl) ?_
    refine At.pick [6, 7] (e' := [(6, .int .i64 (i : Int)), (7, .bool ((cmpI (l.getD i a0).id t) == 0))]) (by kernel_rfl) ?_
    refine At.ret2 (fn := Try.f25) (v := .int .i64 (i : Int)) (u := .bool ((cmpI (l.getD i a0).id t) == 0)) (t := 6) (s := 7) (by kernel_rfl) Try.func25 (by kernel_rfl) (by kernel_rfl) (by kernel_rfl) (fun F w ho => ?_)
    exact shutX (p := PosA l t) i (by first | rw [foundA_no hl (by omega)] | rw [foundA_cmp hl (by omega)]) ⟨by omega, hlo, fun q h1 h2 => hhi q (by omega) (by omega)⟩ [0] rfl ho
   ·have hx2 : (i : Int) ≥ (n : Int) := by simpa using hx2
    refine SOps.pures 11 (i' := 16) (m' := 0) (e' := [(7, .bool false), (6, .int .i64 (i : Int)), (48, .bool false), (47, .tuple #[]), (46, .tuple #[]), (45, .tuple #[]), (44, .tuple #[]), (43, .tuple #[]), (42, .tuple #[]), (41, .tuple #[]), (40, .tuple #[]), (39, .bool false), (38, .bool false), (37, .int .i64 (n : Int)), (36, .int .i64 (i : Int)), (35, .int .i64 (i : Int)), (0, .slice S n cap), (1, .int .i64 t), (2, .func (.func 26) #[] #[]), (8, .int .i64 (n : Int)), (9, .int .i64 (i : Int))]) (by intro u; kernel_rfl) ?_
    refine SOps.nil (.inl rfl) ?_
    refine At.pick [6, 7] (e' := [(6, .int .i64 (i : Int)), (7, .bool false)]) (by kernel_rfl) ?_
    refine At.ret2 (fn := Try.f25) (v := .int .i64 (i : Int)) (u := .bool false) (t := 6) (s := 7) (by kernel_rfl) Try.func25 (by kernel_rfl) (by kernel_rfl) (by kernel_rfl) (fun F w ho => ?_)
    exact shutX (p := PosA l t) i (by first | rw [foundA_no hl (by omega)] | rw [foundA_cmp hl (by omega)]) ⟨by omega, hlo, fun q h1 h2 => hhi q (by omega) (by omega)⟩ [0] rfl ho
theorem bsearch (S : Option Addr) (n cap : Nat) (l : List Alarm) (hl : l.length = n) (hn : n ≤ 1000) (t : Int) (hs : ∀ p q, p < q → q < n → (l.getD p a0).id < (l.getD q a0).id) : Ctr Try.prog 25 #[.slice S n cap, .int .i64 t, .func (.func 26) #[] #[]] [Grow S cap 30 4 n (l.flatMap encA)] (fun v' => ex fun k : Nat => fact (v' = .tuple #[.int .i64 (k : Int), .bool (foundA l t k)]) :: fact (PosA l t k) :: [Grow S cap 30 4 n (l.flatMap encA)]) false := by
 refine spec_of_at (fn := Try.f25) (c := bd25) (args := [.slice S n cap, .int .i64 t, .func (.func 26) #[] #[]]) (n := 49) (e := [(0, .slice S n cap), (1, .int .i64 t), (2, .func (.func 26) #[] #[])]) (k := pt25_9) Try.func25 (by kernel_rfl) (by kernel_rfl) (by kernel_rfl) (by kernel_rfl) 300 (by kernel_rfl) ?_
 refine At.region (ops := opt25_9) (m := 2) (k' := kt25_9) (by kernel_rfl) 300 (k'' := pt25_10) (by kernel_rfl) ?_
 refine SOps.pures 2 (i' := 2) (m' := 0) (e' := [(7, .bool false), (6, .int .i64 0), (0, .slice S n cap), (1, .int .i64 t), (2, .func (.func 26) #[] #[])]) (by intro u; kernel_rfl) ?_
 refine SOps.nil (.inl rfl) ?_
 refine At.pick [0, 1, 2] (e' := [(0, .slice S n cap), (1, .int .i64 t), (2, .func (.func 26) #[] #[])]) (by kernel_rfl) ?_
 refine At.region (ops := opt25_10) (m := 3) (k' := kt25_10) (by kernel_rfl) 300 (k'' := pt25_11) (by kernel_rfl) ?_
 refine SOps.pures 3 (i' := 3) (m' := 0) (e' := [(8, .int .i64 (n : Int)), (13, .int .i64 (n : Int)), (12, .slice S n cap), (0, .slice S n cap), (1, .int .i64 t), (2, .func (.func 26) #[] #[])]) (by intro u; kernel_rfl) ?_
 refine SOps.nil (.inl rfl) ?_
 refine At.pick [0, 1, 2, 8] (e' := [(0, .slice S n cap), (1, .int .i64 t), (2, .func (.func 26) #[] #[]), (8, .int .i64 (n : Int))]) (by kernel_rfl) ?_
 refine At.region (ops := opt25_11) (m := 3) (k' := kt25_11) (by kernel_rfl) 300 (k'' := pt25_0) (by kernel_rfl) ?_
 refine SOps.pures 3 (i' := 3) (m' := 0) (e' := [(10, .int .i64 (n : Int)), (9, .int .i64 0), (14, .int .i64 (n : Int)), (0, .slice S n cap), (1, .int .i64 t), (2, .func (.func 26) #[] #[]), (8, .int .i64 (n : Int))]) (by intro u; kernel_rfl) ?_
 refine SOps.nil (.inl rfl) ?_
 refine At.pick [0, 1, 2, 8, 9, 10] (e' := [(0, .slice S n cap), (1, .int .i64 t), (2, .func (.func 26) #[] #[]), (8, .int .i64 (n : Int)), (9, .int .i64 0), (10, .int .i64 (n : Int))]) (by kernel_rfl) ?_
 exact bsearch_loop S n cap l hl hn t hs (n + 1) 0 n (by omega) (by omega) (by omega) (fun q h => by omega) (fun q h1 h2 => by omega)
end Go.Proofs.Wk
