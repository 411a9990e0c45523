/- Signals: the first of a kind, what waits. -/
import Derived.Test.YtncihgdaaoiaiaaSgA
namespace Go.Proofs.Sg
open Go Go.Sp Go.Sg
set_option linter.unusedVariables false
set_option linter.unusedSimpArgs false
set_option linter.unnecessarySimpa false
set_option maxRecDepth 100000
noncomputable def bd15 : Code := (Try.f15.body).getD .skip
noncomputable def kt15_0 : List Item := .code (pick [1, 1] bd15) :: []
noncomputable def kt15_1 : List Item := .inBlock 0 :: kt15_0
noncomputable def kt15_2 : List Item := .inLoop (pick [1, 0, 1, 0, 0] bd15) :: kt15_1
noncomputable def kt15_3 : List Item := .code (pick [1, 0, 1, 0, 0, 1] bd15) :: kt15_2
noncomputable def pt15_0 : List Item := .code (pick [1, 0, 1, 0, 0, 0] bd15) :: kt15_3
noncomputable def opt15_0 : Array Oper := opsOf (pick [1, 0, 1, 0, 0, 0] bd15)
noncomputable def kt15_4 : List Item := .code (pick [1, 0, 1, 0, 0, 1, 1] bd15) :: kt15_2
noncomputable def pt15_1 : List Item := .code (pick [1, 0, 1, 0, 0, 1, 0] bd15) :: kt15_4
noncomputable def kt15_5 : List Item := .code (pick [1, 0, 1, 0, 0, 1, 1, 1] bd15) :: kt15_2
noncomputable def kt15_6 : List Item := .inBlock 1 :: kt15_5
noncomputable def kt15_7 : List Item := .code (pick [1, 0, 1, 0, 0, 1, 1, 0, 0, 1] bd15) :: kt15_6
noncomputable def pt15_2 : List Item := .code (pick [1, 0, 1, 0, 0, 1, 1, 0, 0, 0] bd15) :: kt15_7
noncomputable def opt15_2 : Array Oper := opsOf (pick [1, 0, 1, 0, 0, 1, 1, 0, 0, 0] bd15)
noncomputable def kt15_8 : List Item := .code (pick [1, 1, 1] bd15) :: []
noncomputable def pt15_3 : List Item := .code (pick [1, 1, 0] bd15) :: kt15_8
noncomputable def opt15_3 : Array Oper := opsOf (pick [1, 1, 0] bd15)
noncomputable def kt15_9 : List Item := .code (pick [1, 0, 1, 0, 0, 1, 1, 0, 0, 1, 1] bd15) :: kt15_6
noncomputable def pt15_4 : List Item := .code (pick [1, 0, 1, 0, 0, 1, 1, 0, 0, 1, 0] bd15) :: kt15_9
noncomputable def opt15_4 : Array Oper := opsOf (pick [1, 0, 1, 0, 0, 1, 1, 0, 0, 1, 0] bd15)
noncomputable def pt15_5 : List Item := .code (pick [1, 0, 1, 0, 0, 1, 1, 0, 0, 1, 1] bd15) :: kt15_6
noncomputable def kt15_10 : List Item := .code (pick [1, 0, 1, 0, 0, 1, 1, 0, 0, 1, 1, 0, 1] bd15) :: kt15_6
noncomputable def pt15_6 : List Item := .code (pick [1, 0, 1, 0, 0, 1, 1, 0, 0, 1, 1, 0, 0] bd15) :: kt15_10
noncomputable def opt15_6 : Array Oper := opsOf (pick [1, 0, 1, 0, 0, 1, 1, 0, 0, 1, 1, 0, 0] bd15)
noncomputable def pt15_7 : List Item := .code (pick [1, 0, 1, 0, 0, 1, 1, 1] bd15) :: kt15_2
noncomputable def opt15_7 : Array Oper := opsOf (pick [1, 0, 1, 0, 0, 1, 1, 1] bd15)
noncomputable def pt15_8 : List Item := .code (pick [1, 0, 1, 0, 0, 1, 1, 0, 0, 1, 1, 0, 1] bd15) :: kt15_6
noncomputable def pt15_9 : List Item := .code (pick [1, 1, 1] bd15) :: []
noncomputable def kt15_11 : List Item := .code (pick [1] bd15) :: []
noncomputable def pt15_10 : List Item := .code (pick [0] bd15) :: kt15_11
noncomputable def opt15_10 : Array Oper := opsOf (pick [0] bd15)
noncomputable def kt15_12 : List Item := .code (pick [1, 0, 1] bd15) :: kt15_0
noncomputable def pt15_11 : List Item := .code (pick [1, 0, 0] bd15) :: kt15_12
noncomputable def opt15_11 : Array Oper := opsOf (pick [1, 0, 0] bd15)
theorem indexSend_loop (S : Option Addr) (n cap : Nat) (l : List Sig) (hl : l.length = n) (hn : n ≤ 200) (no tm : Int) (pn pt : Nat) : ∀ (m k : Nat), n - k < m → k ≤ n → (∀ q, q < k → (fun x => decide (x.no = no) && decide (x.timer = tm)) (l.getD q s0) = false) → At ⟨Try.prog, 15, (fun v' => star (fact (v' = .int .i64 (idxI (l.findIdx? (fun x => decide (x.no = no) && decide (x.timer = tm))))) :: [Grow S cap 31 3 n (l.flatMap encG), Cells pn 3 [.int .i64 no], Cells pt 3 [.int .i64 tm]])), 19, false⟩ pt15_0 [(0, .slice S n cap), (1, .func (.func 16) #[] #[.pointer (some ⟨pn, 0, none⟩), .pointer (some ⟨pt, 0, none⟩)]), (7, .int .i64 (n : Int)), (8, .int .i64 (k : Int))] [Grow S cap 31 3 n (l.flatMap encG), Cells pn 3 [.int .i64 no], Cells pt 3 [.int .i64 tm]] := by
 intro m
 induction m with
 | zero => intro k h; omega
 | succ m ih =>
  intro k hm hk hno
  refine At.region (ops := opt15_0) (m := 1) (k' := kt15_3) (by kernel_rfl) 300 (k'' := pt15_1) (by kernel_rfl) ?_
  refine SOps.pures 1 (i' := 1) (m' := 0) (e' := [(9, .bool (decide ((k : Int) < (n : Int)))), (0, .slice S n cap), (1, .func (.func 16) #[] #[.pointer (some ⟨pn, 0, none⟩), .pointer (some ⟨pt, 0, none⟩)]), (7, .int .i64 (n : Int)), (8, .int .i64 (k : Int))]) (by intro u; kernel_rfl) ?_
  refine SOps.nil (.inl rfl) ?_
  refine At.pick [0, 1, 7, 8, 9] (e' := [(0, .slice S n cap), (1, .func (.func 16) #[] #[.pointer (some ⟨pn, 0, none⟩), .pointer (some ⟨pt, 0, none⟩)]), (7, .int .i64 (n : Int)), (8, .int .i64 (k : Int)), (9, .bool (decide ((k : Int) < (n : Int))))]) (by kernel_rfl) ?_
  refine At.split (fun zq => [(0, .slice S n cap), (1, .func (.func 16) #[] #[.pointer (some ⟨pn, 0, none⟩), .pointer (some ⟨pt, 0, none⟩)]), (7, .int .i64 (n : Int)), (8, .int .i64 (k : Int)), (9, .bool zq)]) (decide ((k : Int) < (n : Int))) (fun hx1 => ?_) (fun hx1 => ?_)
  ·have hx1 : (k : Int) < (n : Int) := by simpa using hx1
   refine At.cond 300 true (c := .tmp 9) (k1 := pt15_2) (k2 := pt15_3) (by kernel_rfl) (by intro u; kernel_rfl) (fun _ => ?_) (fun h => by cases h)
   refine At.pick [0, 1, 7, 8] (e' := [(0, .slice S n cap), (1, .func (.func 16) #[] #[.pointer (some ⟨pn, 0, none⟩), .pointer (some ⟨pt, 0, none⟩)]), (7, .int .i64 (n : Int)), (8, .int .i64 (k : Int))]) (by kernel_rfl) ?_
   refine At.region (ops := opt15_2) (m := 2) (k' := kt15_7) (by kernel_rfl) 300 (k'' := pt15_4) (by kernel_rfl) ?_
   refine SOps.pures 2 (i' := 2) (m' := 0) (e' := [(5, .int .i64 (k : Int)), (10, .int .i64 (k : Int)), (0, .slice S n cap), (1, .func (.func 16) #[] #[.pointer (some ⟨pn, 0, none⟩), .pointer (some ⟨pt, 0, none⟩)]), (7, .int .i64 (n : Int)), (8, .int .i64 (k : Int))]) (by intro u; kernel_rfl) ?_
   refine SOps.nil (.inl rfl) ?_
   refine At.pick [0, 1, 5, 7, 8] (e' := [(0, .slice S n cap), (1, .func (.func 16) #[] #[.pointer (some ⟨pn, 0, none⟩), .pointer (some ⟨pt, 0, none⟩)]), (5, .int .i64 (k : Int)), (7, .int .i64 (n : Int)), (8, .int .i64 (k : Int))]) (by kernel_rfl) ?_
   refine At.region (ops := opt15_4) (m := 6) (k' := kt15_9) (by kernel_rfl) 300 (k'' := pt15_5) (by kernel_rfl) ?_
   refine SOps.pures 3 (i' := 3) (m' := 3) (e' := [(13, .int .i64 (k : Int)), (12, .slice S n cap), (11, .func (.func 16) #[] #[.pointer (some ⟨pn, 0, none⟩), .pointer (some ⟨pt, 0, none⟩)]), (0, .slice S n cap), (1, .func (.func 16) #[] #[.pointer (some ⟨pn, 0, none⟩), .pointer (some ⟨pt, 0, none⟩)]), (5, .int .i64 (k : Int)), (7, .int .i64 (n : Int)), (8, .int .i64 (k : Int))]) (by intro u; kernel_rfl) ?_
   refine SOps.learn (fun F w ho => Grow.some (j := 0) ho rfl) (fun hS => ?_)
   refine SOps.v (Val.pv 14 (vN (Instr.indexAt 26 (.slice S n cap) (.int .i64 (k : Int)))) (.pointer (some ⟨(blk S), k * 3, none⟩)) (by intro u; kernel_rfl) (pv_indexO (el := 31) (sz := 3) (by kernel_rfl) (by kernel_rfl) (by omega) (by omega) (hS.1 (by omega)) (by omega))) ?_
   refine SOps.v (Val.ldN 0 15 31 (blk S) (k * 3) 3 [.int .i64 ((l.getD k s0).no), .int .i64 ((l.getD k s0).timer), .int .i64 ((l.getD k s0).over)] rfl (by intro u; kernel_rfl) (by kernel_rfl) (by kernel_rfl) rfl ⟨(Rd.grow (flat_get encG 3 (fun _ => rfl) l k 0 (l.getD k s0) _ (getD_some (by omega)) rfl)), (Rd.grow (flat_get encG 3 (fun _ => rfl) l k 1 (l.getD k s0) _ (getD_some (by omega)) rfl)), (Rd.grow (flat_get encG 3 (fun _ => rfl) l k 2 (l.getD k s0) _ (getD_some (by omega)) rfl)), trivial⟩) ?_
   refine SOps.o (Op.callS 16 16 #[.agg #[.int .i64 ((l.getD k s0).no), .int .i64 ((l.getD k s0).timer), .int .i64 ((l.getD k s0).over)], .pointer (some ⟨pn, 0, none⟩), .pointer (some ⟨pt, 0, none⟩)] (.bool (decide ((l.getD k s0).no = no) && decide ((l.getD k s0).timer = tm))) [1, 1] (B := [Cells pn 3 [.int .i64 no], Cells pt 3 [.int .i64 tm]]) (D := [Grow S cap 31 3 n (l.flatMap encG)]) (by intro u; kernel_rfl) (sendF (l.getD k s0) no tm pn pt) (by first | exact .inr rfl | exact .inl rfl) (by kernel_rfl) ?_)
   refine SOps.nil (.inl rfl) ?_
   refine At.pick [0, 1, 5, 7, 8, 16] (e' := [(0, .slice S n cap), (1, .func (.func 16) #[] #[.pointer (some ⟨pn, 0, none⟩), .pointer (some ⟨pt, 0, none⟩)]), (5, .int .i64 (k : Int)), (7, .int .i64 (n : Int)), (8, .int .i64 (k : Int)), (16, .bool (decide ((l.getD k s0).no = no) && decide ((l.getD k s0).timer = tm)))]) (by kernel_rfl) ?_
   refine At.split (fun zq => [(0, .slice S n cap), (1, .func (.func 16) #[] #[.pointer (some ⟨pn, 0, none⟩), .pointer (some ⟨pt, 0, none⟩)]), (5, .int .i64 (k : Int)), (7, .int .i64 (n : Int)), (8, .int .i64 (k : Int)), (16, .bool zq)]) ((decide ((l.getD k s0).no = no) && decide ((l.getD k s0).timer = tm))) (fun hx2 => ?_) (fun hx2 => ?_)
   ·have hx2 : (decide ((l.getD k s0).no = no) && decide ((l.getD k s0).timer = tm)) = true := by simpa using hx2
    refine At.cond 300 true (c := .tmp 16) (k1 := pt15_6) (k2 := pt15_7) (by kernel_rfl) (by intro u; kernel_rfl) (fun _ => ?_) (fun h => by cases h)
    refine At.pick [5] (e' := [(5, .int .i64 (k : Int))]) (by kernel_rfl) ?_
    refine At.region (ops := opt15_6) (m := 2) (k' := kt15_10) (by kernel_rfl) 300 (k'' := pt15_8) (by kernel_rfl) ?_
    refine SOps.pures 2 (i' := 2) (m' := 0) (e' := [(4, .int .i64 (k : Int)), (17, .int .i64 (k : Int)), (5, .int .i64 (k : Int))]) (by intro u; kernel_rfl) ?_
    refine SOps.nil (.inl rfl) ?_
    refine At.pick [4] (e' := [(4, .int .i64 (k : Int))]) (by kernel_rfl) ?_
    refine At.ret1 (fn := Try.f15) (v := .int .i64 (k : Int)) (t := 4) (by kernel_rfl) Try.func15 (by kernel_rfl) (by kernel_rfl) (fun F w ho => ?_)
    exact shutV (by rw [find_some hl (by omega) hno (by assumption)]; rfl) [2, 0, 0] rfl ho
   ·have hx2 : (decide ((l.getD k s0).no = no) && decide ((l.getD k s0).timer = tm)) = false := by simpa using hx2
    refine At.cond 300 false (c := .tmp 16) (k1 := pt15_6) (k2 := pt15_7) (by kernel_rfl) (by intro u; kernel_rfl) (fun h => by cases h) (fun _ => ?_)
    refine At.pick [0, 1, 7, 8] (e' := [(0, .slice S n cap), (1, .func (.func 16) #[] #[.pointer (some ⟨pn, 0, none⟩), .pointer (some ⟨pt, 0, none⟩)]), (7, .int .i64 (n : Int)), (8, .int .i64 (k : Int))]) (by kernel_rfl) ?_
    refine At.region (ops := opt15_7) (m := 2) (k' := kt15_2) (by kernel_rfl) 300 (k'' := pt15_0) (by kernel_rfl) ?_
    refine SOps.v (Val.pe 18 (.int .i64 (IntKind.i64.wrap ((k : Int) + 1))) (.int .i64 ((k + 1 : Nat) : Int)) (by intro u; kernel_rfl) (i64_in (by omega) (by omega) (by omega))) ?_
    refine SOps.pures 1 (i' := 2) (m' := 0) (e' := [(8, .int .i64 ((k + 1 : Nat) : Int)), (18, .int .i64 ((k + 1 : Nat) : Int)), (0, .slice S n cap), (1, .func (.func 16) #[] #[.pointer (some ⟨pn, 0, none⟩), .pointer (some ⟨pt, 0, none⟩)]), (7, .int .i64 (n : Int)), (8, .int .i64 (k : Int))]) (by intro u; kernel_rfl) ?_
    refine SOps.nil (.inl rfl) ?_
    refine At.pick [0, 1, 7, 8] (e' := [(0, .slice S n cap), (1, .func (.func 16) #[] #[.pointer (some ⟨pn, 0, none⟩), .pointer (some ⟨pt, 0, none⟩)]), (7, .int .i64 (n : Int)), (8, .int .i64 ((k + 1 : Nat) : Int))]) (by kernel_rfl) ?_
    refine At.keep [2, 0, 0] (B := [Grow S cap 31 3 n (l.flatMap encG), Cells pn 3 [.int .i64 no], Cells pt 3 [.int .i64 tm]]) (D := []) rfl ?_
    refine ih (k + 1) (by omega) (by omega) (fun q hq => ?_)
    rcases Nat.lt_or_eq_of_le (Nat.le_of_lt_succ hq) with h3 | h3
    · exact hno q h3
    · rw [h3]; assumption
  ·have hx1 : (k : Int) ≥ (n : Int) := by simpa using hx1
   refine At.cond 300 false (c := .tmp 9) (k1 := pt15_2) (k2 := pt15_3) (by kernel_rfl) (by intro u; kernel_rfl) (fun h => by cases h) (fun _ => ?_)
   refine At.pick [] (e' := []) (by kernel_rfl) ?_
   refine At.region (ops := opt15_3) (m := 1) (k' := kt15_8) (by kernel_rfl) 300 (k'' := pt15_9) (by kernel_rfl) ?_
   refine SOps.pures 1 (i' := 1) (m' := 0) (e' := [(4, .int .i64 (-1))]) (by intro u; kernel_rfl) ?_
   refine SOps.nil (.inl rfl) ?_
   refine At.ret1 (fn := Try.f15) (v := .int .i64 (-1)) (t := 4) (by kernel_rfl) Try.func15 (by kernel_rfl) (by kernel_rfl) (fun F w ho => ?_)
   exact shutV (by rw [find_none hl (by omega) hno]; rfl) [0, 0, 0] rfl ho
theorem indexSend (S : Option Addr) (n cap : Nat) (l : List Sig) (hl : l.length = n) (hn : n ≤ 200) (no tm : Int) (pn pt : Nat) : Ctr Try.prog 15 #[.slice S n cap, .func (.func 16) #[] #[.pointer (some ⟨pn, 0, none⟩), .pointer (some ⟨pt, 0, none⟩)]] [Grow S cap 31 3 n (l.flatMap encG), Cells pn 3 [.int .i64 no], Cells pt 3 [.int .i64 tm]] (fun v' => star (fact (v' = .int .i64 (idxI (l.findIdx? (fun x => decide (x.no = no) && decide (x.timer = tm))))) :: [Grow S cap 31 3 n (l.flatMap encG), Cells pn 3 [.int .i64 no], Cells pt 3 [.int .i64 tm]])) false := by
 refine spec_of_at (fn := Try.f15) (c := bd15) (args := [.slice S n cap, .func (.func 16) #[] #[.pointer (some ⟨pn, 0, none⟩), .pointer (some ⟨pt, 0, none⟩)]]) (n := 19) (e := [(0, .slice S n cap), (1, .func (.func 16) #[] #[.pointer (some ⟨pn, 0, none⟩), .pointer (some ⟨pt, 0, none⟩)])]) (k := pt15_10) Try.func15 (by kernel_rfl) (by kernel_rfl) (by kernel_rfl) (by kernel_rfl) 300 (by kernel_rfl) ?_
 refine At.region (ops := opt15_10) (m := 1) (k' := kt15_11) (by kernel_rfl) 300 (k'' := pt15_11) (by kernel_rfl) ?_
 refine SOps.pures 1 (i' := 1) (m' := 0) (e' := [(4, .int .i64 0), (0, .slice S n cap), (1, .func (.func 16) #[] #[.pointer (some ⟨pn, 0, none⟩), .pointer (some ⟨pt, 0, none⟩)])]) (by intro u; kernel_rfl) ?_
 refine SOps.nil (.inl rfl) ?_
 refine At.pick [0, 1] (e' := [(0, .slice S n cap), (1, .func (.func 16) #[] #[.pointer (some ⟨pn, 0, none⟩), .pointer (some ⟨pt, 0, none⟩)])]) (by kernel_rfl) ?_
 refine At.region (ops := opt15_11) (m := 3) (k' := kt15_12) (by kernel_rfl) 300 (k'' := pt15_0) (by kernel_rfl) ?_
 refine SOps.pures 3 (i' := 3) (m' := 0) (e' := [(8, .int .i64 0), (7, .int .i64 (n : Int)), (6, .slice S n cap), (0, .slice S n cap), (1, .func (.func 16) #[] #[.pointer (some ⟨pn, 0, none⟩), .pointer (some ⟨pt, 0, none⟩)])]) (by intro u; kernel_rfl) ?_
 refine SOps.nil (.inl rfl) ?_
 refine At.pick [0, 1, 7, 8] (e' := [(0, .slice S n cap), (1, .func (.func 16) #[] #[.pointer (some ⟨pn, 0, none⟩), .pointer (some ⟨pt, 0, none⟩)]), (7, .int .i64 (n : Int)), (8, .int .i64 0)]) (by kernel_rfl) ?_
 refine At.keep [0, 0, 0] (B := [Grow S cap 31 3 n (l.flatMap encG), Cells pn 3 [.int .i64 no], Cells pt 3 [.int .i64 tm]]) (D := []) rfl ?_
 exact indexSend_loop S n cap l hl hn no tm pn pt (n + 1) 0 (by omega) (by omega) (fun q h => by omega)
theorem indexDrop_loop (S : Option Addr) (n cap : Nat) (l : List Sig) (hl : l.length = n) (hn : n ≤ 200) (tm : Int) (pt : Nat) : ∀ (m k : Nat), n - k < m → k ≤ n → (∀ q, q < k → (fun x => decide (x.timer = tm)) (l.getD q s0) = false) → At ⟨Try.prog, 15, (fun v' => star (fact (v' = .int .i64 (idxI (l.findIdx? (fun x => decide (x.timer = tm))))) :: [Grow S cap 31 3 n (l.flatMap encG), Cells pt 3 [.int .i64 tm]])), 19, false⟩ pt15_0 [(0, .slice S n cap), (1, .func (.func 19) #[] #[.pointer (some ⟨pt, 0, none⟩)]), (7, .int .i64 (n : Int)), (8, .int .i64 (k : Int))] [Grow S cap 31 3 n (l.flatMap encG), Cells pt 3 [.int .i64 tm]] := by
 intro m
 induction m with
 | zero => intro k h; omega
 | succ m ih =>
  intro k hm hk hno
  refine At.region (ops := opt15_0) (m := 1) (k' := kt15_3) (by kernel_rfl) 300 (k'' := pt15_1) (by kernel_rfl) ?_
  refine SOps.pures 1 (i' := 1) (m' := 0) (e' := [(9, .bool (decide ((k : Int) < (n : Int)))), (0, .slice S n cap), (1, .func (.func 19) #[] #[.pointer (some ⟨pt, 0, none⟩)]), (7, .int .i64 (n : Int)), (8, .int .i64 (k : Int))]) (by intro u; kernel_rfl) ?_
  refine SOps.nil (.inl rfl) ?_
  refine At.pick [0, 1, 7, 8, 9] (e' := [(0, .slice S n cap), (1, .func (.func 19) #[] #[.pointer (some ⟨pt, 0, none⟩)]), (7, .int .i64 (n : Int)), (8, .int .i64 (k : Int)), (9, .bool (decide ((k : Int) < (n : Int))))]) (by kernel_rfl) ?_
  refine At.split (fun zq => [(0, .slice S n cap), (1, .func (.func 19) #[] #[.pointer (some ⟨pt, 0, none⟩)]), (7, .int .i64 (n : Int)), (8, .int .i64 (k : Int)), (9, .bool zq)]) (decide ((k : Int) < (n : Int))) (fun hx1 => ?_) (fun hx1 => ?_)
  ·have hx1 : (k : Int) < (n : Int) := by simpa using hx1
   refine At.cond 300 true (c := .tmp 9) (k1 := pt15_2) (k2 := pt15_3) (by kernel_rfl) (by intro u; kernel_rfl) (fun _ => ?_) (fun h => by cases h)
   refine At.pick [0, 1, 7, 8] (e' := [(0, .slice S n cap), (1, .func (.func 19) #[] #[.pointer (some ⟨pt, 0, none⟩)]), (7, .int .i64 (n : Int)), (8, .int .i64 (k : Int))]) (by kernel_rfl) ?_
   refine At.region (ops := opt15_2) (m := 2) (k' := kt15_7) (by kernel_rfl) 300 (k'' := pt15_4) (by kernel_rfl) ?_
   refine SOps.pures 2 (i' := 2) (m' := 0) (e' := [(5, .int .i64 (k : Int)), (10, .int .i64 (k : Int)), (0, .slice S n cap), (1, .func (.func 19) #[] #[.pointer (some ⟨pt, 0, none⟩)]), (7, .int .i64 (n : Int)), (8, .int .i64 (k : Int))]) (by intro u; kernel_rfl) ?_
   refine SOps.nil (.inl rfl) ?_
   refine At.pick [0, 1, 5, 7, 8] (e' := [(0, .slice S n cap), (1, .func (.func 19) #[] #[.pointer (some ⟨pt, 0, none⟩)]), (5, .int .i64 (k : Int)), (7, .int .i64 (n : Int)), (8, .int .i64 (k : Int))]) (by kernel_rfl) ?_
   refine At.region (ops := opt15_4) (m := 6) (k' := kt15_9) (by kernel_rfl) 300 (k'' := pt15_5) (by kernel_rfl) ?_
   refine SOps.pures 3 (i' := 3) (m' := 3) (e' := [(13, .int .i64 (k : Int)), (12, .slice S n cap), (11, .func (.func 19) #[] #[.pointer (some ⟨pt, 0, none⟩)]), (0, .slice S n cap), (1, .func (.func 19) #[] #[.pointer (some ⟨pt, 0, none⟩)]), (5, .int .i64 (k : Int)), (7, .int .i64 (n : Int)), (8, .int .i64 (k : Int))]) (by intro u; kernel_rfl) ?_
   refine SOps.learn (fun F w ho => Grow.some (j := 0) ho rfl) (fun hS => ?_)
   refine SOps.v (Val.pv 14 (vN (Instr.indexAt 26 (.slice S n cap) (.int .i64 (k : Int)))) (.pointer (some ⟨(blk S), k * 3, none⟩)) (by intro u; kernel_rfl) (pv_indexO (el := 31) (sz := 3) (by kernel_rfl) (by kernel_rfl) (by omega) (by omega) (hS.1 (by omega)) (by omega))) ?_
   refine SOps.v (Val.ldN 0 15 31 (blk S) (k * 3) 3 [.int .i64 ((l.getD k s0).no), .int .i64 ((l.getD k s0).timer), .int .i64 ((l.getD k s0).over)] rfl (by intro u; kernel_rfl) (by kernel_rfl) (by kernel_rfl) rfl ⟨(Rd.grow (flat_get encG 3 (fun _ => rfl) l k 0 (l.getD k s0) _ (getD_some (by omega)) rfl)), (Rd.grow (flat_get encG 3 (fun _ => rfl) l k 1 (l.getD k s0) _ (getD_some (by omega)) rfl)), (Rd.grow (flat_get encG 3 (fun _ => rfl) l k 2 (l.getD k s0) _ (getD_some (by omega)) rfl)), trivial⟩) ?_
   refine SOps.o (Op.callS 16 19 #[.agg #[.int .i64 ((l.getD k s0).no), .int .i64 ((l.getD k s0).timer), .int .i64 ((l.getD k s0).over)], .pointer (some ⟨pt, 0, none⟩)] (.bool (decide ((l.getD k s0).timer = tm))) [1] (B := [Cells pt 3 [.int .i64 tm]]) (D := [Grow S cap 31 3 n (l.flatMap encG)]) (by intro u; kernel_rfl) (dropF (l.getD k s0) tm pt) (by first | exact .inr rfl | exact .inl rfl) (by kernel_rfl) ?_)
   refine SOps.nil (.inl rfl) ?_
   refine At.pick [0, 1, 5, 7, 8, 16] (e' := [(0, .slice S n cap), (1, .func (.func 19) #[] #[.pointer (some ⟨pt, 0, none⟩)]), (5, .int .i64 (k : Int)), (7, .int .i64 (n : Int)), (8, .int .i64 (k : Int)), (16, .bool (decide ((l.getD k s0).timer = tm)))]) (by kernel_rfl) ?_
   refine At.split (fun zq => [(0, .slice S n cap), (1, .func (.func 19) #[] #[.pointer (some ⟨pt, 0, none⟩)]), (5, .int .i64 (k : Int)), (7, .int .i64 (n : Int)), (8, .int .i64 (k : Int)), (16, .bool zq)]) ((decide ((l.getD k s0).timer = tm))) (fun hx2 => ?_) (fun hx2 => ?_)
   ·have hx2 : (decide ((l.getD k s0).timer = tm)) = true := by simpa using hx2
    refine At.cond 300 true (c := .tmp 16) (k1 := pt15_6) (k2 := pt15_7) (by kernel_rfl) (by intro u; kernel_rfl) (fun _ => ?_) (fun h => by cases h)
    refine At.pick [5] (e' := [(5, .int .i64 (k : Int))]) (by kernel_rfl) ?_
    refine At.region (ops := opt15_6) (m := 2) (k' := kt15_10) (by kernel_rfl) 300 (k'' := pt15_8) (by kernel_rfl) ?_
    refine SOps.pures 2 (i' := 2) (m' := 0) (e' := [(4, .int .i64 (k : Int)), (17, .int .i64 (k : Int)), (5, .int .i64 (k : Int))]) (by intro u; kernel_rfl) ?_
    refine SOps.nil (.inl rfl) ?_
    refine At.pick [4] (e' := [(4, .int .i64 (k : Int))]) (by kernel_rfl) ?_
    refine At.ret1 (fn := Try.f15) (v := .int .i64 (k : Int)) (t := 4) (by kernel_rfl) Try.func15 (by kernel_rfl) (by kernel_rfl) (fun F w ho => ?_)
    exact shutV (by rw [find_some hl (by omega) hno (by assumption)]; rfl) [1, 0] rfl ho
   ·have hx2 : (decide ((l.getD k s0).timer = tm)) = false := by simpa using hx2
    refine At.cond 300 false (c := .tmp 16) (k1 := pt15_6) (k2 := pt15_7) (by kernel_rfl) (by intro u; kernel_rfl) (fun h => by cases h) (fun _ => ?_)
    refine At.pick [0, 1, 7, 8] (e' := [(0, .slice S n cap), (1, .func (.func 19) #[] #[.pointer (some ⟨pt, 0, none⟩)]), (7, .int .i64 (n : Int)), (8, .int .i64 (k : Int))]) (by kernel_rfl) ?_
    refine At.region (ops := opt15_7) (m := 2) (k' := kt15_2) (by kernel_rfl) 300 (k'' := pt15_0) (by kernel_rfl) ?_
    refine SOps.v (Val.pe 18 (.int .i64 (IntKind.i64.wrap ((k : Int) + 1))) (.int .i64 ((k + 1 : Nat) : Int)) (by intro u; kernel_rfl) (i64_in (by omega) (by omega) (by omega))) ?_
    refine SOps.pures 1 (i' := 2) (m' := 0) (e' := [(8, .int .i64 ((k + 1 : Nat) : Int)), (18, .int .i64 ((k + 1 : Nat) : Int)), (0, .slice S n cap), (1, .func (.func 19) #[] #[.pointer (some ⟨pt, 0, none⟩)]), (7, .int .i64 (n : Int)), (8, .int .i64 (k : Int))]) (by intro u; kernel_rfl) ?_
    refine SOps.nil (.inl rfl) ?_
    refine At.pick [0, 1, 7, 8] (e' := [(0, .slice S n cap), (1, .func (.func 19) #[] #[.pointer (some ⟨pt, 0, none⟩)]), (7, .int .i64 (n : Int)), (8, .int .i64 ((k + 1 : Nat) : Int))]) (by kernel_rfl) ?_
    refine At.keep [1, 0] (B := [Grow S cap 31 3 n (l.flatMap encG), Cells pt 3 [.int .i64 tm]]) (D := []) rfl ?_
    refine ih (k + 1) (by omega) (by omega) (fun q hq => ?_)
    rcases Nat.lt_or_eq_of_le (Nat.le_of_lt_succ hq) with h3 | h3
    · exact hno q h3
    · rw [h3]; assumption
  ·have hx1 : (k : Int) ≥ (n : Int) := by simpa using hx1
   refine At.cond 300 false (c := .tmp 9) (k1 := pt15_2) (k2 := pt15_3) (by kernel_rfl) (by intro u; kernel_rfl) (fun h => by cases h) (fun _ => ?_)
   refine At.pick [] (e' := []) (by kernel_rfl) ?_
   refine At.region (ops := opt15_3) (m := 1) (k' := kt15_8) (by kernel_rfl) 300 (k'' := pt15_9) (by kernel_rfl) ?_
   refine SOps.pures 1 (i' := 1) (m' := 0) (e' := [(4, .int .i64 (-1))]) (by intro u; kernel_rfl) ?_
   refine SOps.nil (.inl rfl) ?_
   refine At.ret1 (fn := Try.f15) (v := .int .i64 (-1)) (t := 4) (by kernel_rfl) Try.func15 (by kernel_rfl) (by kernel_rfl) (fun F w ho => ?_)
   exact shutV (by rw [find_none hl (by omega) hno]; rfl) [0, 0] rfl ho
theorem indexDrop (S : Option Addr) (n cap : Nat) (l : List Sig) (hl : l.length = n) (hn : n ≤ 200) (tm : Int) (pt : Nat) : Ctr Try.prog 15 #[.slice S n cap, .func (.func 19) #[] #[.pointer (some ⟨pt, 0, none⟩)]] [Grow S cap 31 3 n (l.flatMap encG), Cells pt 3 [.int .i64 tm]] (fun v' => star (fact (v' = .int .i64 (idxI (l.findIdx? (fun x => decide (x.timer = tm))))) :: [Grow S cap 31 3 n (l.flatMap encG), Cells pt 3 [.int .i64 tm]])) false := by
 refine spec_of_at (fn := Try.f15) (c := bd15) (args := [.slice S n cap, .func (.func 19) #[] #[.pointer (some ⟨pt, 0, none⟩)]]) (n := 19) (e := [(0, .slice S n cap), (1, .func (.func 19) #[] #[.pointer (some ⟨pt, 0, none⟩)])]) (k := pt15_10) Try.func15 (by kernel_rfl) (by kernel_rfl) (by kernel_rfl) (by kernel_rfl) 300 (by kernel_rfl) ?_
 refine At.region (ops := opt15_10) (m := 1) (k' := kt15_11) (by kernel_rfl) 300 (k'' := pt15_11) (by kernel_rfl) ?_
 refine SOps.pures 1 (i' := 1) (m' := 0) (e' := [(4, .int .i64 0), (0, .slice S n cap), (1, .func (.func 19) #[] #[.pointer (some ⟨pt, 0, none⟩)])]) (by intro u; kernel_rfl) ?_
 refine SOps.nil (.inl rfl) ?_
 refine At.pick [0, 1] (e' := [(0, .slice S n cap), (1, .func (.func 19) #[] #[.pointer (some ⟨pt, 0, none⟩)])]) (by kernel_rfl) ?_
 refine At.region (ops := opt15_11) (m := 3) (k' := kt15_12) (by kernel_rfl) 300 (k'' := pt15_0) (by kernel_rfl) ?_
 refine SOps.pures 3 (i' := 3) (m' := 0) (e' := [(8, .int .i64 0), (7, .int .i64 (n : Int)), (6, .slice S n cap), (0, .slice S n cap), (1, .func (.func 19) #[] #[.pointer (some ⟨pt, 0, none⟩)])]) (by intro u; kernel_rfl) ?_
 refine SOps.nil (.inl rfl) ?_
 refine At.pick [0, 1, 7, 8] (e' := [(0, .slice S n cap), (1, .func (.func 19) #[] #[.pointer (some ⟨pt, 0, none⟩)]), (7, .int .i64 (n : Int)), (8, .int .i64 0)]) (by kernel_rfl) ?_
 refine At.keep [0, 0] (B := [Grow S cap 31 3 n (l.flatMap encG), Cells pt 3 [.int .i64 tm]]) (D := []) rfl ?_
 exact indexDrop_loop S n cap l hl hn tm pt (n + 1) 0 (by omega) (by omega) (fun q h => by omega)
theorem indexOpen_loop (S : Option Addr) (n cap : Nat) (l : List Sig) (hl : l.length = n) (hn : n ≤ 200) (pc q : Nat) (bv : BitVec 64) (hg : ∀ p, p < n → 1 ≤ (l.getD p s0).no ∧ (l.getD p s0).no ≤ 63) : ∀ (m k : Nat), n - k < m → k ≤ n → (∀ q, q < k → (fun x => openB bv x.no) (l.getD q s0) = false) → At ⟨Try.prog, 15, (fun v' => star (fact (v' = .int .i64 (idxI (l.findIdx? (fun x => openB bv x.no)))) :: [Grow S cap 31 3 n (l.flatMap encG), Cells pc 24 [.pointer (some ⟨q, 0, none⟩)], Cells q 42 [.slice S n cap, .int .u64 (bv.toNat : Int)]])), 19, false⟩ pt15_0 [(0, .slice S n cap), (1, .func (.func 21) #[] #[.pointer (some ⟨pc, 0, none⟩)]), (7, .int .i64 (n : Int)), (8, .int .i64 (k : Int))] [Grow S cap 31 3 n (l.flatMap encG), Cells pc 24 [.pointer (some ⟨q, 0, none⟩)], Cells q 42 [.slice S n cap, .int .u64 (bv.toNat : Int)]] := by
 intro m
 induction m with
 | zero => intro k h; omega
 | succ m ih =>
  intro k hm hk hno
  refine At.region (ops := opt15_0) (m := 1) (k' := kt15_3) (by kernel_rfl) 300 (k'' := pt15_1) (by kernel_rfl) ?_
  refine SOps.pures 1 (i' := 1) (m' := 0) (e' := [(9, .bool (decide ((k : Int) < (n : Int)))), (0, .slice S n cap), (1, .func (.func 21) #[] #[.pointer (some ⟨pc, 0, none⟩)]), (7, .int .i64 (n : Int)), (8, .int .i64 (k : Int))]) (by intro u; kernel_rfl) ?_
  refine SOps.nil (.inl rfl) ?_
  refine At.pick [0, 1, 7, 8, 9] (e' := [(0, .slice S n cap), (1, .func (.func 21) #[] #[.pointer (some ⟨pc, 0, none⟩)]), (7, .int .i64 (n : Int)), (8, .int .i64 (k : Int)), (9, .bool (decide ((k : Int) < (n : Int))))]) (by kernel_rfl) ?_
  refine At.split (fun zq => [(0, .slice S n cap), (1, .func (.func 21) #[] #[.pointer (some ⟨pc, 0, none⟩)]), (7, .int .i64 (n : Int)), (8, .int .i64 (k : Int)), (9, .bool zq)]) (decide ((k : Int) < (n : Int))) (fun hx1 => ?_) (fun hx1 => ?_)
  ·have hx1 : (k : Int) < (n : Int) := by simpa using hx1
   refine At.cond 300 true (c := .tmp 9) (k1 := pt15_2) (k2 := pt15_3) (by kernel_rfl) (by intro u; kernel_rfl) (fun _ => ?_) (fun h => by cases h)
   refine At.pick [0, 1, 7, 8] (e' := [(0, .slice S n cap), (1, .func (.func 21) #[] #[.pointer (some ⟨pc, 0, none⟩)]), (7, .int .i64 (n : Int)), (8, .int .i64 (k : Int))]) (by kernel_rfl) ?_
   refine At.region (ops := opt15_2) (m := 2) (k' := kt15_7) (by kernel_rfl) 300 (k'' := pt15_4) (by kernel_rfl) ?_
   refine SOps.pures 2 (i' := 2) (m' := 0) (e' := [(5, .int .i64 (k : Int)), (10, .int .i64 (k : Int)), (0, .slice S n cap), (1, .func (.func 21) #[] #[.pointer (some ⟨pc, 0, none⟩)]), (7, .int .i64 (n : Int)), (8, .int .i64 (k : Int))]) (by intro u; kernel_rfl) ?_
   refine SOps.nil (.inl rfl) ?_
   refine At.pick [0, 1, 5, 7, 8] (e' := [(0, .slice S n cap), (1, .func (.func 21) #[] #[.pointer (some ⟨pc, 0, none⟩)]), (5, .int .i64 (k : Int)), (7, .int .i64 (n : Int)), (8, .int .i64 (k : Int))]) (by kernel_rfl) ?_
   refine At.region (ops := opt15_4) (m := 6) (k' := kt15_9) (by kernel_rfl) 300 (k'' := pt15_5) (by kernel_rfl) ?_
   refine SOps.pures 3 (i' := 3) (m' := 3) (e' := [(13, .int .i64 (k : Int)), (12, .slice S n cap), (11, .func (.func 21) #[] #[.pointer (some ⟨pc, 0, none⟩)]), (0, .slice S n cap), (1, .func (.func 21) #[] #[.pointer (some ⟨pc, 0, none⟩)]), (5, .int .i64 (k : Int)), (7, .int .i64 (n : Int)), (8, .int .i64 (k : Int))]) (by intro u; kernel_rfl) ?_
   refine SOps.learn (fun F w ho => Grow.some (j := 0) ho rfl) (fun hS => ?_)
   refine SOps.v (Val.pv 14 (vN (Instr.indexAt 26 (.slice S n cap) (.int .i64 (k : Int)))) (.pointer (some ⟨(blk S), k * 3, none⟩)) (by intro u; kernel_rfl) (pv_indexO (el := 31) (sz := 3) (by kernel_rfl) (by kernel_rfl) (by omega) (by omega) (hS.1 (by omega)) (by omega))) ?_
   refine SOps.v (Val.ldN 0 15 31 (blk S) (k * 3) 3 [.int .i64 ((l.getD k s0).no), .int .i64 ((l.getD k s0).timer), .int .i64 ((l.getD k s0).over)] rfl (by intro u; kernel_rfl) (by kernel_rfl) (by kernel_rfl) rfl ⟨(Rd.grow (flat_get encG 3 (fun _ => rfl) l k 0 (l.getD k s0) _ (getD_some (by omega)) rfl)), (Rd.grow (flat_get encG 3 (fun _ => rfl) l k 1 (l.getD k s0) _ (getD_some (by omega)) rfl)), (Rd.grow (flat_get encG 3 (fun _ => rfl) l k 2 (l.getD k s0) _ (getD_some (by omega)) rfl)), trivial⟩) ?_
   refine SOps.o (Op.callS 16 21 #[.agg #[.int .i64 ((l.getD k s0).no), .int .i64 ((l.getD k s0).timer), .int .i64 ((l.getD k s0).over)], .pointer (some ⟨pc, 0, none⟩)] (.bool (openB bv (l.getD k s0).no)) [1, 1] (B := [Cells pc 24 [.pointer (some ⟨q, 0, none⟩)], Cells q 42 [.slice S n cap, .int .u64 (bv.toNat : Int)]]) (D := [Grow S cap 31 3 n (l.flatMap encG)]) (by intro u; kernel_rfl) (openF (l.getD k s0) pc q n cap S bv (hg k (by omega))) (by first | exact .inr rfl | exact .inl rfl) (by kernel_rfl) ?_)
   refine SOps.nil (.inl rfl) ?_
   refine At.pick [0, 1, 5, 7, 8, 16] (e' := [(0, .slice S n cap), (1, .func (.func 21) #[] #[.pointer (some ⟨pc, 0, none⟩)]), (5, .int .i64 (k : Int)), (7, .int .i64 (n : Int)), (8, .int .i64 (k : Int)), (16, .bool (openB bv (l.getD k s0).no))]) (by kernel_rfl) ?_
   refine At.split (fun zq => [(0, .slice S n cap), (1, .func (.func 21) #[] #[.pointer (some ⟨pc, 0, none⟩)]), (5, .int .i64 (k : Int)), (7, .int .i64 (n : Int)), (8, .int .i64 (k : Int)), (16, .bool zq)]) ((openB bv (l.getD k s0).no)) (fun hx2 => ?_) (fun hx2 => ?_)
   ·have hx2 : (openB bv (l.getD k s0).no) = true := by simpa using hx2
    refine At.cond 300 true (c := .tmp 16) (k1 := pt15_6) (k2 := pt15_7) (by kernel_rfl) (by intro u; kernel_rfl) (fun _ => ?_) (fun h => by cases h)
    refine At.pick [5] (e' := [(5, .int .i64 (k : Int))]) (by kernel_rfl) ?_
    refine At.region (ops := opt15_6) (m := 2) (k' := kt15_10) (by kernel_rfl) 300 (k'' := pt15_8) (by kernel_rfl) ?_
    refine SOps.pures 2 (i' := 2) (m' := 0) (e' := [(4, .int .i64 (k : Int)), (17, .int .i64 (k : Int)), (5, .int .i64 (k : Int))]) (by intro u; kernel_rfl) ?_
    refine SOps.nil (.inl rfl) ?_
    refine At.pick [4] (e' := [(4, .int .i64 (k : Int))]) (by kernel_rfl) ?_
    refine At.ret1 (fn := Try.f15) (v := .int .i64 (k : Int)) (t := 4) (by kernel_rfl) Try.func15 (by kernel_rfl) (by kernel_rfl) (fun F w ho => ?_)
    exact shutV (by rw [find_some hl (by omega) hno (by assumption)]; rfl) [2, 0, 0] rfl ho
   ·have hx2 : (openB bv (l.getD k s0).no) = false := by simpa using hx2
    refine At.cond 300 false (c := .tmp 16) (k1 := pt15_6) (k2 := pt15_7) (by kernel_rfl) (by intro u; kernel_rfl) (fun h => by cases h) (fun _ => ?_)
    refine At.pick [0, 1, 7, 8] (e' := [(0, .slice S n cap), (1, .func (.func 21) #[] #[.pointer (some ⟨pc, 0, none⟩)]), (7, .int .i64 (n : Int)), (8, .int .i64 (k : Int))]) (by kernel_rfl) ?_
    refine At.region (ops := opt15_7) (m := 2) (k' := kt15_2) (by kernel_rfl) 300 (k'' := pt15_0) (by kernel_rfl) ?_
    refine SOps.v (Val.pe 18 (.int .i64 (IntKind.i64.wrap ((k : Int) + 1))) (.int .i64 ((k + 1 : Nat) : Int)) (by intro u; kernel_rfl) (i64_in (by omega) (by omega) (by omega))) ?_
    refine SOps.pures 1 (i' := 2) (m' := 0) (e' := [(8, .int .i64 ((k + 1 : Nat) : Int)), (18, .int .i64 ((k + 1 : Nat) : Int)), (0, .slice S n cap), (1, .func (.func 21) #[] #[.pointer (some ⟨pc, 0, none⟩)]), (7, .int .i64 (n : Int)), (8, .int .i64 (k : Int))]) (by intro u; kernel_rfl) ?_
    refine SOps.nil (.inl rfl) ?_
    refine At.pick [0, 1, 7, 8] (e' := [(0, .slice S n cap), (1, .func (.func 21) #[] #[.pointer (some ⟨pc, 0, none⟩)]), (7, .int .i64 (n : Int)), (8, .int .i64 ((k + 1 : Nat) : Int))]) (by kernel_rfl) ?_
    refine At.keep [2, 0, 0] (B := [Grow S cap 31 3 n (l.flatMap encG), Cells pc 24 [.pointer (some ⟨q, 0, none⟩)], Cells q 42 [.slice S n cap, .int .u64 (bv.toNat : Int)]]) (D := []) rfl ?_
    refine ih (k + 1) (by omega) (by omega) (fun q hq => ?_)
    rcases Nat.lt_or_eq_of_le (Nat.le_of_lt_succ hq) with h3 | h3
    · exact hno q h3
    · rw [h3]; assumption
  ·have hx1 : (k : Int) ≥ (n : Int) := by simpa using hx1
   refine At.cond 300 false (c := .tmp 9) (k1 := pt15_2) (k2 := pt15_3) (by kernel_rfl) (by intro u; kernel_rfl) (fun h => by cases h) (fun _ => ?_)
   refine At.pick [] (e' := []) (by kernel_rfl) ?_
   refine At.region (ops := opt15_3) (m := 1) (k' := kt15_8) (by kernel_rfl) 300 (k'' := pt15_9) (by kernel_rfl) ?_
   refine SOps.pures 1 (i' := 1) (m' := 0) (e' := [(4, .int .i64 (-1))]) (by intro u; kernel_rfl) ?_
   refine SOps.nil (.inl rfl) ?_
   refine At.ret1 (fn := Try.f15) (v := .int .i64 (-1)) (t := 4) (by kernel_rfl) Try.func15 (by kernel_rfl) (by kernel_rfl) (fun F w ho => ?_)
   exact shutV (by rw [find_none hl (by omega) hno]; rfl) [0, 0, 0] rfl ho
theorem indexOpen (S : Option Addr) (n cap : Nat) (l : List Sig) (hl : l.length = n) (hn : n ≤ 200) (pc q : Nat) (bv : BitVec 64) (hg : ∀ p, p < n → 1 ≤ (l.getD p s0).no ∧ (l.getD p s0).no ≤ 63) : Ctr Try.prog 15 #[.slice S n cap, .func (.func 21) #[] #[.pointer (some ⟨pc, 0, none⟩)]] [Grow S cap 31 3 n (l.flatMap encG), Cells pc 24 [.pointer (some ⟨q, 0, none⟩)], Cells q 42 [.slice S n cap, .int .u64 (bv.toNat : Int)]] (fun v' => star (fact (v' = .int .i64 (idxI (l.findIdx? (fun x => openB bv x.no)))) :: [Grow S cap 31 3 n (l.flatMap encG), Cells pc 24 [.pointer (some ⟨q, 0, none⟩)], Cells q 42 [.slice S n cap, .int .u64 (bv.toNat : Int)]])) false := by
 refine spec_of_at (fn := Try.f15) (c := bd15) (args := [.slice S n cap, .func (.func 21) #[] #[.pointer (some ⟨pc, 0, none⟩)]]) (n := 19) (e := [(0, .slice S n cap), (1, .func (.func 21) #[] #[.pointer (some ⟨pc, 0, none⟩)])]) (k := pt15_10) Try.func15 (by kernel_rfl) (by kernel_rfl) (by kernel_rfl) (by kernel_rfl) 300 (by kernel_rfl) ?_
 refine At.region (ops := opt15_10) (m := 1) (k' := kt15_11) (by kernel_rfl) 300 (k'' := pt15_11) (by kernel_rfl) ?_
 refine SOps.pures 1 (i' := 1) (m' := 0) (e' := [(4, .int .i64 0), (0, .slice S n cap), (1, .func (.func 21) #[] #[.pointer (some ⟨pc, 0, none⟩)])]) (by intro u; kernel_rfl) ?_
 refine SOps.nil (.inl rfl) ?_
 refine At.pick [0, 1] (e' := [(0, .slice S n cap), (1, .func (.func 21) #[] #[.pointer (some ⟨pc, 0, none⟩)])]) (by kernel_rfl) ?_
 refine At.region (ops := opt15_11) (m := 3) (k' := kt15_12) (by kernel_rfl) 300 (k'' := pt15_0) (by kernel_rfl) ?_
 refine SOps.pures 3 (i' := 3) (m' := 0) (e' := [(8, .int .i64 0), (7, .int .i64 (n : Int)), (6, .slice S n cap), (0, .slice S n cap), (1, .func (.func 21) #[] #[.pointer (some ⟨pc, 0, none⟩)])]) (by intro u; kernel_rfl) ?_
 refine SOps.nil (.inl rfl) ?_
 refine At.pick [0, 1, 7, 8] (e' := [(0, .slice S n cap), (1, .func (.func 21) #[] #[.pointer (some ⟨pc, 0, none⟩)]), (7, .int .i64 (n : Int)), (8, .int .i64 0)]) (by kernel_rfl) ?_
 refine At.keep [0, 0, 0] (B := [Grow S cap 31 3 n (l.flatMap encG), Cells pc 24 [.pointer (some ⟨q, 0, none⟩)], Cells q 42 [.slice S n cap, .int .u64 (bv.toNat : Int)]]) (D := []) rfl ?_
 exact indexOpen_loop S n cap l hl hn pc q bv hg (n + 1) 0 (by omega) (by omega) (fun q h => by omega)
noncomputable def bd12 : Code := (Try.f12.body).getD .skip
noncomputable def kt12_0 : List Item := .code (pick [1] bd12) :: []
noncomputable def pt12_0 : List Item := .code (pick [0] bd12) :: kt12_0
noncomputable def opt12_0 : Array Oper := opsOf (pick [0] bd12)
noncomputable def kt12_1 : List Item := .code (pick [1, 1] bd12) :: []
noncomputable def kt12_2 : List Item := .code (pick [1, 0, 1] bd12) :: kt12_1
noncomputable def pt12_1 : List Item := .code (pick [1, 0, 0] bd12) :: kt12_2
noncomputable def opt12_1 : Array Oper := opsOf (pick [1, 0, 0] bd12)
noncomputable def pt12_2 : List Item := .code (pick [1, 0, 1] bd12) :: kt12_1
noncomputable def kt12_3 : List Item := .code (pick [1, 0, 1, 0, 1] bd12) :: kt12_1
noncomputable def pt12_3 : List Item := .code (pick [1, 0, 1, 0, 0] bd12) :: kt12_3
noncomputable def opt12_3 : Array Oper := opsOf (pick [1, 0, 1, 0, 0] bd12)
noncomputable def kt12_4 : List Item := .code (pick [1, 1, 1] bd12) :: []
noncomputable def pt12_4 : List Item := .code (pick [1, 1, 0] bd12) :: kt12_4
noncomputable def opt12_4 : Array Oper := opsOf (pick [1, 1, 0] bd12)
noncomputable def pt12_5 : List Item := .code (pick [1, 1, 1] bd12) :: []
noncomputable def pt12_6 : List Item := .code (pick [1, 0, 1, 0, 1] bd12) :: kt12_1
theorem openM (q : Nat) (l : List Sig) (bv : BitVec 64) (hg : GoodG l) : Ctr Try.prog 12 #[.pointer (some ⟨q, 0, none⟩)] [QuC q l bv] (fun v' => star (fact (v' = .int .i64 (idxI (openI l bv))) :: [QuC q l bv])) false := by
 refine spec_of_at (fn := Try.f12) (c := bd12) (args := [.pointer (some ⟨q, 0, none⟩)]) (n := 11) (e := [(0, .pointer (some ⟨q, 0, none⟩))]) (k := pt12_0) Try.func12 (by kernel_rfl) (by kernel_rfl) (by kernel_rfl) (by kernel_rfl) 300 (by kernel_rfl) ?_
 have hlen := hg.1
 refine At.conseq (fun F w ho => QuC.open_ ho) (fun x => ?_)
 obtain ⟨S, cap⟩ := x
 refine At.region (ops := opt12_0) (m := 2) (k' := kt12_0) (by kernel_rfl) 300 (k'' := pt12_1) (by kernel_rfl) ?_
 refine SOps.o (Op.new 1 24 [.pointer (some ⟨q, 0, none⟩)] (fun b => .pointer (some ⟨b, 0, none⟩)) (by intro u b; kernel_rfl) ?_)
 intro bx1
 refine SOps.pures 1 (i' := 2) (m' := 0) (e' := [(2, .int .i64 0), (1, .pointer (some ⟨bx1, 0, none⟩)), (0, .pointer (some ⟨q, 0, none⟩))]) (by intro u; kernel_rfl) ?_
 refine SOps.nil (.inl rfl) ?_
 refine At.pick [1] (e' := [(1, .pointer (some ⟨bx1, 0, none⟩))]) (by kernel_rfl) ?_
 refine At.region (ops := opt12_1) (m := 2) (k' := kt12_2) (by kernel_rfl) 300 (k'' := pt12_2) (by kernel_rfl) ?_
 refine SOps.v (Val.ld1 0 3 24 bx1 0 (.pointer (some ⟨q, 0, none⟩)) rfl (by intro u; kernel_rfl) (by kernel_rfl) (Rd.cells rfl)) ?_
 refine SOps.pures 1 (i' := 2) (m' := 0) (e' := [(4, .bool false), (3, .pointer (some ⟨q, 0, none⟩)), (1, .pointer (some ⟨bx1, 0, none⟩))]) (by intro u; kernel_rfl) ?_
 refine SOps.nil (.inl rfl) ?_
 refine At.pick [1, 4] (e' := [(1, .pointer (some ⟨bx1, 0, none⟩)), (4, .bool false)]) (by kernel_rfl) ?_
 refine At.cond 300 false (c := .tmp 4) (k1 := pt12_3) (k2 := pt12_4) (by kernel_rfl) (by intro u; kernel_rfl) (fun h => by cases h) (fun _ => ?_)
 refine At.pick [1] (e' := [(1, .pointer (some ⟨bx1, 0, none⟩))]) (by kernel_rfl) ?_
 refine At.region (ops := opt12_4) (m := 7) (k' := kt12_4) (by kernel_rfl) 300 (k'' := pt12_5) (by kernel_rfl) ?_
 refine SOps.v (Val.ld1 0 5 24 bx1 0 (.pointer (some ⟨q, 0, none⟩)) rfl (by intro u; kernel_rfl) (by kernel_rfl) (Rd.cells rfl)) ?_
 refine SOps.pures 2 (i' := 3) (m' := 4) (e' := [(7, .pointer (some ⟨q, 0, none⟩)), (6, .pointer (some ⟨q, 0, none⟩)), (5, .pointer (some ⟨q, 0, none⟩)), (1, .pointer (some ⟨bx1, 0, none⟩))]) (by intro u; kernel_rfl) ?_
 refine SOps.v (Val.ld1 1 8 26 q 0 (.slice S l.length cap) rfl (by intro u; kernel_rfl) (by kernel_rfl) (Rd.cells rfl)) ?_
 refine SOps.pures 1 (i' := 5) (m' := 2) (e' := [(9, .func (.func 21) #[] #[.pointer (some ⟨bx1, 0, none⟩)]), (8, .slice S l.length cap), (7, .pointer (some ⟨q, 0, none⟩)), (6, .pointer (some ⟨q, 0, none⟩)), (5, .pointer (some ⟨q, 0, none⟩)), (1, .pointer (some ⟨bx1, 0, none⟩))]) (by intro u; kernel_rfl) ?_
 refine SOps.o (Op.callS 10 15 #[.slice S l.length cap, .func (.func 21) #[] #[.pointer (some ⟨bx1, 0, none⟩)]] (.int .i64 (idxI (openI l bv))) [2, 0, 0] (B := [Grow S cap 31 3 l.length (l.flatMap encG), Cells bx1 24 [.pointer (some ⟨q, 0, none⟩)], Cells q 42 [.slice S l.length cap, .int .u64 (bv.toNat : Int)]]) (D := []) (by intro u; kernel_rfl) (indexOpen S l.length cap l rfl (by omega) bx1 q bv (fun p hp => ⟨(hg.2 p hp).1, (hg.2 p hp).2.1⟩)) (by first | exact .inr rfl | exact .inl rfl) (by kernel_rfl) ?_)
 refine SOps.pures 1 (i' := 7) (m' := 0) (e' := [(2, .int .i64 (idxI (openI l bv))), (10, .int .i64 (idxI (openI l bv))), (9, .func (.func 21) #[] #[.pointer (some ⟨bx1, 0, none⟩)]), (8, .slice S l.length cap), (7, .pointer (some ⟨q, 0, none⟩)), (6, .pointer (some ⟨q, 0, none⟩)), (5, .pointer (some ⟨q, 0, none⟩)), (1, .pointer (some ⟨bx1, 0, none⟩))]) (by intro u; kernel_rfl) ?_
 refine SOps.nil (.inl rfl) ?_
 refine At.pick [2] (e' := [(2, .int .i64 (idxI (openI l bv)))]) (by kernel_rfl) ?_
 refine At.ret1 (fn := Try.f12) (v := .int .i64 (idxI (openI l bv))) (t := 2) (by kernel_rfl) Try.func12 (by kernel_rfl) (by kernel_rfl) (fun F w ho => ?_)
 have ho2 := QuC.close (l := l) (bv := bv) rfl [2, 0] rfl ho
 exact shutS [0] rfl ho2
theorem openN  : Ctr Try.prog 12 #[.pointer none] [] (fun v' => star (fact (v' = .int .i64 (-1)) :: [])) false := by
 refine spec_of_at (fn := Try.f12) (c := bd12) (args := [.pointer none]) (n := 11) (e := [(0, .pointer none)]) (k := pt12_0) Try.func12 (by kernel_rfl) (by kernel_rfl) (by kernel_rfl) (by kernel_rfl) 300 (by kernel_rfl) ?_
 refine At.region (ops := opt12_0) (m := 2) (k' := kt12_0) (by kernel_rfl) 300 (k'' := pt12_1) (by kernel_rfl) ?_
 refine SOps.o (Op.new 1 24 [.pointer none] (fun b => .pointer (some ⟨b, 0, none⟩)) (by intro u b; kernel_rfl) ?_)
 intro bx1
 refine SOps.pures 1 (i' := 2) (m' := 0) (e' := [(2, .int .i64 0), (1, .pointer (some ⟨bx1, 0, none⟩)), (0, .pointer none)]) (by intro u; kernel_rfl) ?_
 refine SOps.nil (.inl rfl) ?_
 refine At.pick [1] (e' := [(1, .pointer (some ⟨bx1, 0, none⟩))]) (by kernel_rfl) ?_
 refine At.region (ops := opt12_1) (m := 2) (k' := kt12_2) (by kernel_rfl) 300 (k'' := pt12_2) (by kernel_rfl) ?_
 refine SOps.v (Val.ld1 0 3 24 bx1 0 (.pointer none) rfl (by intro u; kernel_rfl) (by kernel_rfl) (Rd.cells rfl)) ?_
 refine SOps.pures 1 (i' := 2) (m' := 0) (e' := [(4, .bool true), (3, .pointer none), (1, .pointer (some ⟨bx1, 0, none⟩))]) (by intro u; kernel_rfl) ?_
 refine SOps.nil (.inl rfl) ?_
 refine At.pick [1, 4] (e' := [(1, .pointer (some ⟨bx1, 0, none⟩)), (4, .bool true)]) (by kernel_rfl) ?_
 refine At.cond 300 true (c := .tmp 4) (k1 := pt12_3) (k2 := pt12_4) (by kernel_rfl) (by intro u; kernel_rfl) (fun _ => ?_) (fun h => by cases h)
 refine At.pick [] (e' := []) (by kernel_rfl) ?_
 refine At.region (ops := opt12_3) (m := 1) (k' := kt12_3) (by kernel_rfl) 300 (k'' := pt12_6) (by kernel_rfl) ?_
 refine SOps.pures 1 (i' := 1) (m' := 0) (e' := [(2, .int .i64 (-1))]) (by intro u; kernel_rfl) ?_
 refine SOps.nil (.inl rfl) ?_
 refine At.ret1 (fn := Try.f12) (v := .int .i64 (-1)) (t := 2) (by kernel_rfl) Try.func12 (by kernel_rfl) (by kernel_rfl) (fun F w ho => ?_)
 exact shutV rfl [] rfl ho
noncomputable def bd6 : Code := (Try.f6.body).getD .skip
noncomputable def kt6_0 : List Item := .code (pick [1] bd6) :: []
noncomputable def pt6_0 : List Item := .code (pick [0] bd6) :: kt6_0
noncomputable def opt6_0 : Array Oper := opsOf (pick [0] bd6)
noncomputable def kt6_1 : List Item := .code (pick [1, 1] bd6) :: []
noncomputable def pt6_1 : List Item := .code (pick [1, 0] bd6) :: kt6_1
noncomputable def opt6_1 : Array Oper := opsOf (pick [1, 0] bd6)
noncomputable def pt6_2 : List Item := .code (pick [1, 1] bd6) :: []
theorem readyM (q : Nat) (l : List Sig) (bv : BitVec 64) (hg : GoodG l) : Ctr Try.prog 6 #[.pointer (some ⟨q, 0, none⟩)] [QuC q l bv] (fun v' => star (fact (v' = .bool (openI l bv).isSome) :: [QuC q l bv])) false := by
 refine spec_of_at (fn := Try.f6) (c := bd6) (args := [.pointer (some ⟨q, 0, none⟩)]) (n := 6) (e := [(0, .pointer (some ⟨q, 0, none⟩))]) (k := pt6_0) Try.func6 (by kernel_rfl) (by kernel_rfl) (by kernel_rfl) (by kernel_rfl) 300 (by kernel_rfl) ?_
 refine At.region (ops := opt6_0) (m := 1) (k' := kt6_0) (by kernel_rfl) 300 (k'' := pt6_1) (by kernel_rfl) ?_
 refine SOps.pures 1 (i' := 1) (m' := 0) (e' := [(2, .bool false), (0, .pointer (some ⟨q, 0, none⟩))]) (by intro u; kernel_rfl) ?_
 refine SOps.nil (.inl rfl) ?_
 refine At.pick [0] (e' := [(0, .pointer (some ⟨q, 0, none⟩))]) (by kernel_rfl) ?_
 refine At.region (ops := opt6_1) (m := 4) (k' := kt6_1) (by kernel_rfl) 300 (k'' := pt6_2) (by kernel_rfl) ?_
 refine SOps.pures 1 (i' := 1) (m' := 3) (e' := [(3, .pointer (some ⟨q, 0, none⟩)), (0, .pointer (some ⟨q, 0, none⟩))]) (by intro u; kernel_rfl) ?_
 refine SOps.o (Op.callS 4 12 #[.pointer (some ⟨q, 0, none⟩)] (.int .i64 (idxI (openI l bv))) [0] (B := [QuC q l bv]) (D := []) (by intro u; kernel_rfl) (openM q l bv hg) (by first | exact .inr rfl | exact .inl rfl) (by kernel_rfl) ?_)
 refine SOps.pures 2 (i' := 4) (m' := 0) (e' := [(2, .bool (decide ((idxI (openI l bv)) ≥ 0))), (5, .bool (decide ((idxI (openI l bv)) ≥ 0))), (4, .int .i64 (idxI (openI l bv))), (3, .pointer (some ⟨q, 0, none⟩)), (0, .pointer (some ⟨q, 0, none⟩))]) (by intro u; kernel_rfl) ?_
 refine SOps.nil (.inl rfl) ?_
 refine At.pick [2] (e' := [(2, .bool (decide ((idxI (openI l bv)) ≥ 0)))]) (by kernel_rfl) ?_
 refine At.ret1 (fn := Try.f6) (v := .bool (decide ((idxI (openI l bv)) ≥ 0))) (t := 2) (by kernel_rfl) Try.func6 (by kernel_rfl) (by kernel_rfl) (fun F w ho => ?_)
 exact shutV (by cases openI l bv <;> simp [idxI]) [0] rfl ho
theorem readyN  : Ctr Try.prog 6 #[.pointer none] [] (fun v' => star (fact (v' = .bool false) :: [])) false := by
 refine spec_of_at (fn := Try.f6) (c := bd6) (args := [.pointer none]) (n := 6) (e := [(0, .pointer none)]) (k := pt6_0) Try.func6 (by kernel_rfl) (by kernel_rfl) (by kernel_rfl) (by kernel_rfl) 300 (by kernel_rfl) ?_
 refine At.region (ops := opt6_0) (m := 1) (k' := kt6_0) (by kernel_rfl) 300 (k'' := pt6_1) (by kernel_rfl) ?_
 refine SOps.pures 1 (i' := 1) (m' := 0) (e' := [(2, .bool false), (0, .pointer none)]) (by intro u; kernel_rfl) ?_
 refine SOps.nil (.inl rfl) ?_
 refine At.pick [0] (e' := [(0, .pointer none)]) (by kernel_rfl) ?_
 refine At.region (ops := opt6_1) (m := 4) (k' := kt6_1) (by kernel_rfl) 300 (k'' := pt6_2) (by kernel_rfl) ?_
 refine SOps.pures 1 (i' := 1) (m' := 3) (e' := [(3, .pointer none), (0, .pointer none)]) (by intro u; kernel_rfl) ?_
 refine SOps.o (Op.callS 4 12 #[.pointer none] (.int .i64 (-1)) [] (B := []) (D := []) (by intro u; kernel_rfl) (openN) (by first | exact .inr rfl | exact .inl rfl) (by kernel_rfl) ?_)
 refine SOps.pures 2 (i' := 4) (m' := 0) (e' := [(2, .bool false), (5, .bool false), (4, .int .i64 (-1)), (3, .pointer none), (0, .pointer none)]) (by intro u; kernel_rfl) ?_
 refine SOps.nil (.inl rfl) ?_
 refine At.pick [2] (e' := [(2, .bool false)]) (by kernel_rfl) ?_
 refine At.ret1 (fn := Try.f6) (v := .bool false) (t := 2) (by kernel_rfl) Try.func6 (by kernel_rfl) (by kernel_rfl) (fun F w ho => ?_)
 exact shutV rfl [] rfl ho
noncomputable def bd11 : Code := (Try.f11.body).getD .skip
noncomputable def kt11_0 : List Item := .code (pick [1] bd11) :: []
noncomputable def pt11_0 : List Item := .code (pick [0] bd11) :: kt11_0
noncomputable def opt11_0 : Array Oper := opsOf (pick [0] bd11)
noncomputable def kt11_1 : List Item := .code (pick [1, 1] bd11) :: []
noncomputable def kt11_2 : List Item := .code (pick [1, 0, 1] bd11) :: kt11_1
noncomputable def pt11_1 : List Item := .code (pick [1, 0, 0] bd11) :: kt11_2
noncomputable def opt11_1 : Array Oper := opsOf (pick [1, 0, 0] bd11)
noncomputable def pt11_2 : List Item := .code (pick [1, 0, 1] bd11) :: kt11_1
noncomputable def kt11_3 : List Item := .code (pick [1, 0, 1, 0, 1] bd11) :: kt11_1
noncomputable def pt11_3 : List Item := .code (pick [1, 0, 1, 0, 0] bd11) :: kt11_3
noncomputable def opt11_3 : Array Oper := opsOf (pick [1, 0, 1, 0, 0] bd11)
noncomputable def kt11_4 : List Item := .code (pick [1, 1, 1] bd11) :: []
noncomputable def pt11_4 : List Item := .code (pick [1, 1, 0] bd11) :: kt11_4
noncomputable def opt11_4 : Array Oper := opsOf (pick [1, 1, 0] bd11)
noncomputable def pt11_5 : List Item := .code (pick [1, 1, 1] bd11) :: []
theorem waitingM (q : Nat) (l : List Sig) (bv : BitVec 64) (hg : GoodG l) : Ctr Try.prog 11 #[.pointer (some ⟨q, 0, none⟩)] [QuC q l bv] (fun v' => ex fun x : Option Addr × Nat => fact (v' = .slice x.1 l.length x.2) :: fact True :: [Grow x.1 x.2 31 3 l.length (l.flatMap encG), QuC q l bv]) false := by
 refine spec_of_at (fn := Try.f11) (c := bd11) (args := [.pointer (some ⟨q, 0, none⟩)]) (n := 10) (e := [(0, .pointer (some ⟨q, 0, none⟩))]) (k := pt11_0) Try.func11 (by kernel_rfl) (by kernel_rfl) (by kernel_rfl) (by kernel_rfl) 300 (by kernel_rfl) ?_
 have hlen := hg.1
 refine At.conseq (fun F w ho => QuC.open_ ho) (fun x => ?_)
 obtain ⟨S, cap⟩ := x
 refine At.region (ops := opt11_0) (m := 1) (k' := kt11_0) (by kernel_rfl) 300 (k'' := pt11_1) (by kernel_rfl) ?_
 refine SOps.pures 1 (i' := 1) (m' := 0) (e' := [(2, .slice none 0 0), (0, .pointer (some ⟨q, 0, none⟩))]) (by intro u; kernel_rfl) ?_
 refine SOps.nil (.inl rfl) ?_
 refine At.pick [0] (e' := [(0, .pointer (some ⟨q, 0, none⟩))]) (by kernel_rfl) ?_
 refine At.region (ops := opt11_1) (m := 2) (k' := kt11_2) (by kernel_rfl) 300 (k'' := pt11_2) (by kernel_rfl) ?_
 refine SOps.pures 2 (i' := 2) (m' := 0) (e' := [(4, .bool false), (3, .pointer (some ⟨q, 0, none⟩)), (0, .pointer (some ⟨q, 0, none⟩))]) (by intro u; kernel_rfl) ?_
 refine SOps.nil (.inl rfl) ?_
 refine At.pick [0, 4] (e' := [(0, .pointer (some ⟨q, 0, none⟩)), (4, .bool false)]) (by kernel_rfl) ?_
 refine At.cond 300 false (c := .tmp 4) (k1 := pt11_3) (k2 := pt11_4) (by kernel_rfl) (by intro u; kernel_rfl) (fun h => by cases h) (fun _ => ?_)
 refine At.pick [0] (e' := [(0, .pointer (some ⟨q, 0, none⟩))]) (by kernel_rfl) ?_
 refine At.region (ops := opt11_4) (m := 6) (k' := kt11_4) (by kernel_rfl) 300 (k'' := pt11_5) (by kernel_rfl) ?_
 refine SOps.pures 3 (i' := 3) (m' := 3) (e' := [(7, .pointer (some ⟨q, 0, none⟩)), (6, .pointer (some ⟨q, 0, none⟩)), (5, .pointer (some ⟨q, 0, none⟩)), (0, .pointer (some ⟨q, 0, none⟩))]) (by intro u; kernel_rfl) ?_
 refine SOps.v (Val.ld1 0 8 26 q 0 (.slice S l.length cap) rfl (by intro u; kernel_rfl) (by kernel_rfl) (Rd.cells rfl)) ?_
 refine SOps.o (Op.callX 9 20 #[.slice S l.length cap] _ _ [1] (B := [Grow S cap 31 3 l.length (l.flatMap encG)]) (D := [Cells q 42 [.slice S l.length cap, .int .u64 (bv.toNat : Int)]]) (by intro u; kernel_rfl) (cloneG S l.length cap l rfl (by omega)) (by first | exact .inr rfl | exact .inl rfl) (by kernel_rfl) ?_)
 rintro ⟨Sx1, cx2⟩ -
 refine SOps.pures 1 (i' := 6) (m' := 0) (e' := [(2, .slice Sx1 l.length cx2), (9, .slice Sx1 l.length cx2), (8, .slice S l.length cap), (7, .pointer (some ⟨q, 0, none⟩)), (6, .pointer (some ⟨q, 0, none⟩)), (5, .pointer (some ⟨q, 0, none⟩)), (0, .pointer (some ⟨q, 0, none⟩))]) (by intro u; kernel_rfl) ?_
 refine SOps.nil (.inl rfl) ?_
 refine At.pick [2] (e' := [(2, .slice Sx1 l.length cx2)]) (by kernel_rfl) ?_
 refine At.ret1 (fn := Try.f11) (v := .slice Sx1 l.length cx2) (t := 2) (by kernel_rfl) Try.func11 (by kernel_rfl) (by kernel_rfl) (fun F w ho => ?_)
 have ho2 := QuC.close (l := l) (bv := bv) rfl [2, 1] rfl ho
 exact shutX (p := fun _ => True) (Sx1, cx2) rfl trivial [1, 0] rfl ho2
noncomputable def bd5 : Code := (Try.f5.body).getD .skip
noncomputable def kt5_0 : List Item := .code (pick [1] bd5) :: []
noncomputable def pt5_0 : List Item := .code (pick [0] bd5) :: kt5_0
noncomputable def opt5_0 : Array Oper := opsOf (pick [0] bd5)
noncomputable def kt5_1 : List Item := .code (pick [1, 1] bd5) :: []
noncomputable def pt5_1 : List Item := .code (pick [1, 0] bd5) :: kt5_1
noncomputable def opt5_1 : Array Oper := opsOf (pick [1, 0] bd5)
noncomputable def pt5_2 : List Item := .code (pick [1, 1] bd5) :: []
theorem newM  : Ctr Try.prog 5 #[] [] (fun v' => ex fun q : Nat => fact (v' = .pointer (some ⟨q, 0, none⟩)) :: fact True :: [QuC q [] 0#64]) false := by
 refine spec_of_at (fn := Try.f5) (c := bd5) (args := []) (n := 3) (e := []) (k := pt5_0) Try.func5 (by kernel_rfl) (by kernel_rfl) (by kernel_rfl) (by kernel_rfl) 300 (by kernel_rfl) ?_
 refine At.region (ops := opt5_0) (m := 1) (k' := kt5_0) (by kernel_rfl) 300 (k'' := pt5_1) (by kernel_rfl) ?_
 refine SOps.pures 1 (i' := 1) (m' := 0) (e' := [(0, .pointer none)]) (by intro u; kernel_rfl) ?_
 refine SOps.nil (.inl rfl) ?_
 refine At.pick [] (e' := []) (by kernel_rfl) ?_
 refine At.region (ops := opt5_1) (m := 3) (k' := kt5_1) (by kernel_rfl) 300 (k'' := pt5_2) (by kernel_rfl) ?_
 refine SOps.pures 1 (i' := 1) (m' := 2) (e' := [(1, .agg #[.slice none 0 0, .int .u64 0])]) (by intro u; kernel_rfl) ?_
 refine SOps.o (Op.new 2 42 [.slice none 0 0, .int .u64 0] (fun b => .pointer (some ⟨b, 0, none⟩)) (by intro u b; kernel_rfl) ?_)
 intro bx1
 refine SOps.pures 1 (i' := 3) (m' := 0) (e' := [(0, .pointer (some ⟨bx1, 0, none⟩)), (2, .pointer (some ⟨bx1, 0, none⟩)), (1, .agg #[.slice none 0 0, .int .u64 0])]) (by intro u; kernel_rfl) ?_
 refine SOps.nil (.inl rfl) ?_
 refine At.pick [0] (e' := [(0, .pointer (some ⟨bx1, 0, none⟩))]) (by kernel_rfl) ?_
 refine At.ret1 (fn := Try.f5) (v := .pointer (some ⟨bx1, 0, none⟩)) (t := 0) (by kernel_rfl) Try.func5 (by kernel_rfl) (by kernel_rfl) (fun F w ho => ?_)
 have ho' : Owns (Grow none 0 31 3 0 (([] : List Sig).flatMap encG) :: [Cells bx1 42 [.slice none 0 0, .int .u64 0]]) F w := Grow.nil_ 31 3 ho
 have ho2 := QuC.close (l := []) (bv := 0#64) rfl [1, 0] rfl ho'
 exact shutX (p := fun _ => True) bx1 rfl trivial [0] rfl ho2
end Go.Proofs.Sg
