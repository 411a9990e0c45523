/- Signals: those of a timer dropped. -/
import Derived.Test.YtncihgdaaoiaiaaSgD
namespace Go.Proofs.Sg
open Go Go.Sp Go.Sg
set_option linter.unusedVariables false
set_option linter.unusedSimpArgs false
set_option linter.unnecessarySimpa false
set_option maxRecDepth 100000
noncomputable def bd18 : Code := (Try.f18.body).getD .skip
noncomputable def kt18_0 : List Item := .code (pick [1, 1, 1, 1] bd18) :: []
noncomputable def kt18_1 : List Item := .inBlock 0 :: kt18_0
noncomputable def kt18_2 : List Item := .inLoop (pick [1, 1, 1, 0, 1, 0, 0] bd18) :: kt18_1
noncomputable def kt18_3 : List Item := .code (pick [1, 1, 1, 0, 1, 0, 0, 1] bd18) :: kt18_2
noncomputable def kt18_4 : List Item := .code (pick [1, 1, 1, 0, 1, 0, 0, 0, 1] bd18) :: kt18_3
noncomputable def pt18_0 : List Item := .code (pick [1, 1, 1, 0, 1, 0, 0, 0, 0] bd18) :: kt18_4
noncomputable def opt18_0 : Array Oper := opsOf (pick [1, 1, 1, 0, 1, 0, 0, 0, 0] bd18)
noncomputable def pt18_1 : List Item := .code (pick [1, 1, 1, 0, 1, 0, 0, 0, 1] bd18) :: kt18_3
noncomputable def kt18_5 : List Item := .code (pick [1, 1, 1, 0, 1, 0, 0, 1, 1] bd18) :: kt18_2
noncomputable def kt18_6 : List Item := .inBlock 1 :: kt18_5
noncomputable def kt18_7 : List Item := .code (pick [1, 1, 1, 0, 1, 0, 0, 1, 0, 0, 1] bd18) :: kt18_6
noncomputable def pt18_2 : List Item := .code (pick [1, 1, 1, 0, 1, 0, 0, 1, 0, 0, 0] bd18) :: kt18_7
noncomputable def opt18_2 : Array Oper := opsOf (pick [1, 1, 1, 0, 1, 0, 0, 1, 0, 0, 0] bd18)
noncomputable def kt18_8 : List Item := .code (pick [1, 1, 1, 1, 1] bd18) :: []
noncomputable def pt18_3 : List Item := .code (pick [1, 1, 1, 1, 0] bd18) :: kt18_8
noncomputable def opt18_3 : Array Oper := opsOf (pick [1, 1, 1, 1, 0] bd18)
noncomputable def kt18_9 : List Item := .code (pick [1, 1, 1, 0, 1, 0, 0, 1, 0, 0, 1, 1] bd18) :: kt18_6
noncomputable def pt18_4 : List Item := .code (pick [1, 1, 1, 0, 1, 0, 0, 1, 0, 0, 1, 0] bd18) :: kt18_9
noncomputable def opt18_4 : Array Oper := opsOf (pick [1, 1, 1, 0, 1, 0, 0, 1, 0, 0, 1, 0] bd18)
noncomputable def pt18_5 : List Item := .code (pick [1, 1, 1, 0, 1, 0, 0, 1, 0, 0, 1, 1] bd18) :: kt18_6
noncomputable def kt18_10 : List Item := .code (pick [1, 1, 1, 0, 1, 0, 0, 1, 0, 0, 1, 1, 0, 1] bd18) :: kt18_6
noncomputable def pt18_6 : List Item := .code (pick [1, 1, 1, 0, 1, 0, 0, 1, 0, 0, 1, 1, 0, 0] bd18) :: kt18_10
noncomputable def opt18_6 : Array Oper := opsOf (pick [1, 1, 1, 0, 1, 0, 0, 1, 0, 0, 1, 1, 0, 0] bd18)
noncomputable def pt18_7 : List Item := .code (pick [1, 1, 1, 0, 1, 0, 0, 1, 1] bd18) :: kt18_2
noncomputable def opt18_7 : Array Oper := opsOf (pick [1, 1, 1, 0, 1, 0, 0, 1, 1] bd18)
noncomputable def pt18_8 : List Item := .code (pick [1, 1, 1, 0, 1, 0, 0, 1, 0, 0, 1, 1, 0, 1] bd18) :: kt18_6
noncomputable def opt18_8 : Array Oper := opsOf (pick [1, 1, 1, 0, 1, 0, 0, 1, 0, 0, 1, 1, 0, 1] bd18)
noncomputable def kt18_11 : List Item := .code (pick [1, 1, 1, 1, 1, 1] bd18) :: []
noncomputable def pt18_9 : List Item := .code (pick [1, 1, 1, 1, 1, 0] bd18) :: kt18_11
noncomputable def opt18_9 : Array Oper := opsOf (pick [1, 1, 1, 1, 1, 0] bd18)
noncomputable def pt18_10 : List Item := .code (pick [1, 1, 1, 1, 1, 1] bd18) :: []
noncomputable def kt18_12 : List Item := .code (pick [1] bd18) :: []
noncomputable def pt18_11 : List Item := .code (pick [0] bd18) :: kt18_12
noncomputable def opt18_11 : Array Oper := opsOf (pick [0] bd18)
noncomputable def kt18_13 : List Item := .code (pick [1, 1] bd18) :: []
noncomputable def pt18_12 : List Item := .code (pick [1, 0] bd18) :: kt18_13
noncomputable def opt18_12 : Array Oper := opsOf (pick [1, 0] bd18)
noncomputable def kt18_14 : List Item := .code (pick [1, 1, 1] bd18) :: []
noncomputable def kt18_15 : List Item := .code (pick [1, 1, 0, 1] bd18) :: kt18_14
noncomputable def pt18_13 : List Item := .code (pick [1, 1, 0, 0] bd18) :: kt18_15
noncomputable def opt18_13 : Array Oper := opsOf (pick [1, 1, 0, 0] bd18)
noncomputable def pt18_14 : List Item := .code (pick [1, 1, 0, 1] bd18) :: kt18_14
noncomputable def kt18_16 : List Item := .code (pick [1, 1, 0, 1, 0, 1] bd18) :: kt18_14
noncomputable def pt18_15 : List Item := .code (pick [1, 1, 0, 1, 0, 0] bd18) :: kt18_16
noncomputable def opt18_15 : Array Oper := opsOf (pick [1, 1, 0, 1, 0, 0] bd18)
noncomputable def kt18_17 : List Item := .code (pick [1, 1, 1, 0, 1] bd18) :: kt18_0
noncomputable def pt18_16 : List Item := .code (pick [1, 1, 1, 0, 0] bd18) :: kt18_17
noncomputable def opt18_16 : Array Oper := opsOf (pick [1, 1, 1, 0, 0] bd18)
noncomputable def pt18_17 : List Item := .code (pick [1, 1, 0, 1, 0, 1] bd18) :: kt18_14
theorem delFunc_loop (S : Option Addr) (n cap : Nat) (l : List Sig) (hl : l.length = n) (hn : n ≤ 200) (tm : Int) (pt : Nat) : ∀ (mm i j : Nat) (c : List Sig), n - j < mm → Thin (isT tm) l c i j → At ⟨Try.prog, 18, (fun v' => star (fact (v' = .slice S (dropL l tm).length cap) :: [Grow S cap 31 3 (dropL l tm).length ((dropL l tm).flatMap encG), Cells pt 3 [.int .i64 tm]])), 42, false⟩ pt18_0 [(0, .slice S n cap), (1, .func (.func 19) #[] #[.pointer (some ⟨pt, 0, none⟩)]), (5, .int .i64 (i : Int)), (6, .int .i64 (j : Int))] [Grow S cap 31 3 n (c.flatMap encG), Cells pt 3 [.int .i64 tm]] := by
 intro mm
 induction mm with
 | zero => intro i j c h; omega
 | succ mm ih =>
  intro i j c hm hT
  have hjl := hT.jl
  have hij0 := hT.ij
  have hcl0 := hT.len.trans hl
  refine At.region (ops := opt18_0) (m := 4) (k' := kt18_4) (by kernel_rfl) 300 (k'' := pt18_1) (by kernel_rfl) ?_
  refine SOps.pures 4 (i' := 4) (m' := 0) (e' := [(19, .bool (decide ((j : Int) < (n : Int)))), (18, .int .i64 (n : Int)), (17, .slice S n cap), (16, .int .i64 (j : Int)), (0, .slice S n cap), (1, .func (.func 19) #[] #[.pointer (some ⟨pt, 0, none⟩)]), (5, .int .i64 (i : Int)), (6, .int .i64 (j : Int))]) (by intro u; kernel_rfl) ?_
  refine SOps.nil (.inl rfl) ?_
  refine At.pick [0, 1, 5, 6, 19] (e' := [(0, .slice S n cap), (1, .func (.func 19) #[] #[.pointer (some ⟨pt, 0, none⟩)]), (5, .int .i64 (i : Int)), (6, .int .i64 (j : Int)), (19, .bool (decide ((j : Int) < (n : Int))))]) (by kernel_rfl) ?_
  refine At.split (fun zq => [(0, .slice S n cap), (1, .func (.func 19) #[] #[.pointer (some ⟨pt, 0, none⟩)]), (5, .int .i64 (i : Int)), (6, .int .i64 (j : Int)), (19, .bool zq)]) (decide ((j : Int) < (n : Int))) (fun hx1 => ?_) (fun hx1 => ?_)
  ·have hx1 : (j : Int) < (n : Int) := by simpa using hx1
   refine At.cond 300 true (c := .tmp 19) (k1 := pt18_2) (k2 := pt18_3) (by kernel_rfl) (by intro u; kernel_rfl) (fun _ => ?_) (fun h => by cases h)
   refine At.pick [0, 1, 5, 6] (e' := [(0, .slice S n cap), (1, .func (.func 19) #[] #[.pointer (some ⟨pt, 0, none⟩)]), (5, .int .i64 (i : Int)), (6, .int .i64 (j : Int))]) (by kernel_rfl) ?_
   refine At.region (ops := opt18_2) (m := 6) (k' := kt18_7) (by kernel_rfl) 300 (k'' := pt18_4) (by kernel_rfl) ?_
   refine SOps.pures 2 (i' := 2) (m' := 4) (e' := [(23, .int .i64 (j : Int)), (22, .slice S n cap), (0, .slice S n cap), (1, .func (.func 19) #[] #[.pointer (some ⟨pt, 0, none⟩)]), (5, .int .i64 (i : Int)), (6, .int .i64 (j : Int))]) (by intro u; kernel_rfl) ?_
   refine SOps.learn (fun F w ho => Grow.some (j := 0) ho rfl) (fun hS => ?_)
   refine SOps.v (Val.pv 24 (vN (Instr.indexAt 26 (.slice S n cap) (.int .i64 (j : Int)))) (.pointer (some ⟨(blk S), j * 3, none⟩)) (by intro u; kernel_rfl) (pv_indexO (el := 31) (sz := 3) (by kernel_rfl) (by kernel_rfl) (by omega) (by omega) (hS.1 (by omega)) (by omega))) ?_
   refine SOps.v (Val.ldN 0 25 31 (blk S) (j * 3) 3 [.int .i64 ((c.getD j s0).no), .int .i64 ((c.getD j s0).timer), .int .i64 ((c.getD j s0).over)] rfl (by intro u; kernel_rfl) (by kernel_rfl) (by kernel_rfl) rfl ⟨(Rd.grow (flat_get encG 3 (fun _ => rfl) c j 0 (c.getD j s0) _ (getD_some (by omega)) rfl)), (Rd.grow (flat_get encG 3 (fun _ => rfl) c j 1 (c.getD j s0) _ (getD_some (by omega)) rfl)), (Rd.grow (flat_get encG 3 (fun _ => rfl) c j 2 (c.getD j s0) _ (getD_some (by omega)) rfl)), trivial⟩) ?_
   refine SOps.o (Op.new 7 31 [.int .i64 0, .int .i64 0, .int .i64 0] (fun b => .pointer (some ⟨b, 0, none⟩)) (by intro u b; kernel_rfl) ?_)
   intro bx2
   refine SOps.o (Op.st 0 31 bx2 0 (.agg #[.int .i64 ((c.getD j s0).no), .int .i64 ((c.getD j s0).timer), .int .i64 ((c.getD j s0).over)]) [.int .i64 ((c.getD j s0).no), .int .i64 ((c.getD j s0).timer), .int .i64 ((c.getD j s0).over)] 3 (B' := Cells bx2 31 [.int .i64 ((c.getD j s0).no), .int .i64 ((c.getD j s0).timer), .int .i64 ((c.getD j s0).over)]) (A' := [Cells bx2 31 [.int .i64 ((c.getD j s0).no), .int .i64 ((c.getD j s0).timer), .int .i64 ((c.getD j s0).over)], Grow S cap 31 3 n (c.flatMap encG), Cells pt 3 [.int .i64 tm]]) rfl (by intro u; kernel_rfl) rfl (by kernel_rfl) rfl rfl (Wr.cells rfl rfl) rfl ?_)
   refine SOps.nil (.inl rfl) ?_
   refine At.pick [0, 1, 5, 6, 7] (e' := [(0, .slice S n cap), (1, .func (.func 19) #[] #[.pointer (some ⟨pt, 0, none⟩)]), (5, .int .i64 (i : Int)), (6, .int .i64 (j : Int)), (7, .pointer (some ⟨bx2, 0, none⟩))]) (by kernel_rfl) ?_
   refine At.region (ops := opt18_4) (m := 4) (k' := kt18_9) (by kernel_rfl) 300 (k'' := pt18_5) (by kernel_rfl) ?_
   refine SOps.pures 1 (i' := 1) (m' := 3) (e' := [(26, .func (.func 19) #[] #[.pointer (some ⟨pt, 0, none⟩)]), (0, .slice S n cap), (1, .func (.func 19) #[] #[.pointer (some ⟨pt, 0, none⟩)]), (5, .int .i64 (i : Int)), (6, .int .i64 (j : Int)), (7, .pointer (some ⟨bx2, 0, none⟩))]) (by intro u; kernel_rfl) ?_
   refine SOps.v (Val.ldN 0 27 31 bx2 0 3 [.int .i64 ((c.getD j s0).no), .int .i64 ((c.getD j s0).timer), .int .i64 ((c.getD j s0).over)] rfl (by intro u; kernel_rfl) (by kernel_rfl) (by kernel_rfl) rfl ⟨(Rd.cells rfl), (Rd.cells rfl), (Rd.cells rfl), trivial⟩) ?_
   refine SOps.o (Op.callS 28 19 #[.agg #[.int .i64 ((c.getD j s0).no), .int .i64 ((c.getD j s0).timer), .int .i64 ((c.getD j s0).over)], .pointer (some ⟨pt, 0, none⟩)] (.bool (isT tm (c.getD j s0))) [2] (B := [Cells pt 3 [.int .i64 tm]]) (D := [Cells bx2 31 [.int .i64 ((c.getD j s0).no), .int .i64 ((c.getD j s0).timer), .int .i64 ((c.getD j s0).over)], Grow S cap 31 3 n (c.flatMap encG)]) (by intro u; kernel_rfl) (dropF (c.getD j s0) tm pt) (by first | exact .inr rfl | exact .inl rfl) (by kernel_rfl) ?_)
   refine SOps.pures 1 (i' := 4) (m' := 0) (e' := [(29, .bool (!(isT tm (c.getD j s0)))), (28, .bool (isT tm (c.getD j s0))), (27, .agg #[.int .i64 ((c.getD j s0).no), .int .i64 ((c.getD j s0).timer), .int .i64 ((c.getD j s0).over)]), (26, .func (.func 19) #[] #[.pointer (some ⟨pt, 0, none⟩)]), (0, .slice S n cap), (1, .func (.func 19) #[] #[.pointer (some ⟨pt, 0, none⟩)]), (5, .int .i64 (i : Int)), (6, .int .i64 (j : Int)), (7, .pointer (some ⟨bx2, 0, none⟩))]) (by intro u; kernel_rfl) ?_
   refine SOps.nil (.inl rfl) ?_
   refine At.pick [0, 1, 5, 6, 7, 29] (e' := [(0, .slice S n cap), (1, .func (.func 19) #[] #[.pointer (some ⟨pt, 0, none⟩)]), (5, .int .i64 (i : Int)), (6, .int .i64 (j : Int)), (7, .pointer (some ⟨bx2, 0, none⟩)), (29, .bool (!(isT tm (c.getD j s0))))]) (by kernel_rfl) ?_
   refine At.split (fun zq => [(0, .slice S n cap), (1, .func (.func 19) #[] #[.pointer (some ⟨pt, 0, none⟩)]), (5, .int .i64 (i : Int)), (6, .int .i64 (j : Int)), (7, .pointer (some ⟨bx2, 0, none⟩)), (29, .bool zq)]) (!(isT tm (c.getD j s0))) (fun hx3 => ?_) (fun hx3 => ?_)
   ·have hx3 : (isT tm (c.getD j s0)) = false := by simpa using hx3
    refine At.cond 300 true (c := .tmp 29) (k1 := pt18_6) (k2 := pt18_7) (by kernel_rfl) (by intro u; kernel_rfl) (fun _ => ?_) (fun h => by cases h)
    refine At.pick [0, 1, 5, 6, 7] (e' := [(0, .slice S n cap), (1, .func (.func 19) #[] #[.pointer (some ⟨pt, 0, none⟩)]), (5, .int .i64 (i : Int)), (6, .int .i64 (j : Int)), (7, .pointer (some ⟨bx2, 0, none⟩))]) (by kernel_rfl) ?_
    have hij := hT.ij
    have hcl := hT.len.trans hl
    refine At.region (ops := opt18_6) (m := 5) (k' := kt18_10) (by kernel_rfl) 300 (k'' := pt18_8) (by kernel_rfl) ?_
    refine SOps.pures 2 (i' := 2) (m' := 3) (e' := [(31, .int .i64 (i : Int)), (30, .slice S n cap), (0, .slice S n cap), (1, .func (.func 19) #[] #[.pointer (some ⟨pt, 0, none⟩)]), (5, .int .i64 (i : Int)), (6, .int .i64 (j : Int)), (7, .pointer (some ⟨bx2, 0, none⟩))]) (by intro u; kernel_rfl) ?_
    refine SOps.v (Val.ldN 1 32 31 bx2 0 3 [.int .i64 ((c.getD j s0).no), .int .i64 ((c.getD j s0).timer), .int .i64 ((c.getD j s0).over)] rfl (by intro u; kernel_rfl) (by kernel_rfl) (by kernel_rfl) rfl ⟨(Rd.cells rfl), (Rd.cells rfl), (Rd.cells rfl), trivial⟩) ?_
    refine SOps.v (Val.pv 33 (vN (Instr.indexAt 26 (.slice S n cap) (.int .i64 (i : Int)))) (.pointer (some ⟨(blk S), i * 3, none⟩)) (by intro u; kernel_rfl) (pv_indexO (el := 31) (sz := 3) (by kernel_rfl) (by kernel_rfl) (by omega) (by omega) (hS.1 (by omega)) (by omega))) ?_
    refine SOps.o (Op.st 2 31 (blk S) (i * 3) (.agg #[.int .i64 ((c.getD j s0).no), .int .i64 ((c.getD j s0).timer), .int .i64 ((c.getD j s0).over)]) [.int .i64 ((c.getD j s0).no), .int .i64 ((c.getD j s0).timer), .int .i64 ((c.getD j s0).over)] 3 (B' := Grow S cap 31 3 n ((c.set i (c.getD j s0)).flatMap encG)) (A' := [Cells pt 3 [.int .i64 tm], Cells bx2 31 [.int .i64 ((c.getD j s0).no), .int .i64 ((c.getD j s0).timer), .int .i64 ((c.getD j s0).over)], Grow S cap 31 3 n ((c.set i (c.getD j s0)).flatMap encG)]) rfl (by intro u; kernel_rfl) rfl (by kernel_rfl) rfl rfl (Wr.grow (by simp) (by rw [flat_len encG 3 (fun _ => rfl)]; simp only [List.length_cons, List.length_nil]; omega) (flat_set1 encG 3 (fun _ => rfl) c i (c.getD j s0) (by omega))) rfl ?_)
    refine SOps.nil (.inl rfl) ?_
    refine At.pick [0, 1, 5, 6] (e' := [(0, .slice S n cap), (1, .func (.func 19) #[] #[.pointer (some ⟨pt, 0, none⟩)]), (5, .int .i64 (i : Int)), (6, .int .i64 (j : Int))]) (by kernel_rfl) ?_
    refine At.region (ops := opt18_8) (m := 3) (k' := kt18_6) (by kernel_rfl) 300 (k'' := pt18_7) (by kernel_rfl) ?_
    refine SOps.pures 1 (i' := 1) (m' := 2) (e' := [(34, .int .i64 (i : Int)), (0, .slice S n cap), (1, .func (.func 19) #[] #[.pointer (some ⟨pt, 0, none⟩)]), (5, .int .i64 (i : Int)), (6, .int .i64 (j : Int))]) (by intro u; kernel_rfl) ?_
    refine SOps.v (Val.pe 35 (.int .i64 (IntKind.i64.wrap ((i : Int) + 1))) (.int .i64 ((i + 1 : Nat) : Int)) (by intro u; kernel_rfl) (i64_in (by omega) (by omega) (by omega))) ?_
    refine SOps.pures 1 (i' := 3) (m' := 0) (e' := [(5, .int .i64 ((i + 1 : Nat) : Int)), (35, .int .i64 ((i + 1 : Nat) : Int)), (34, .int .i64 (i : Int)), (0, .slice S n cap), (1, .func (.func 19) #[] #[.pointer (some ⟨pt, 0, none⟩)]), (5, .int .i64 (i : Int)), (6, .int .i64 (j : Int))]) (by intro u; kernel_rfl) ?_
    refine SOps.nil (.inl rfl) ?_
    refine At.pick [0, 1, 5, 6] (e' := [(0, .slice S n cap), (1, .func (.func 19) #[] #[.pointer (some ⟨pt, 0, none⟩)]), (5, .int .i64 ((i + 1 : Nat) : Int)), (6, .int .i64 (j : Int))]) (by kernel_rfl) ?_
    refine At.region (ops := opt18_7) (m := 3) (k' := kt18_2) (by kernel_rfl) 300 (k'' := pt18_0) (by kernel_rfl) ?_
    refine SOps.pures 1 (i' := 1) (m' := 2) (e' := [(20, .int .i64 (j : Int)), (0, .slice S n cap), (1, .func (.func 19) #[] #[.pointer (some ⟨pt, 0, none⟩)]), (5, .int .i64 ((i + 1 : Nat) : Int)), (6, .int .i64 (j : Int))]) (by intro u; kernel_rfl) ?_
    refine SOps.v (Val.pe 21 (.int .i64 (IntKind.i64.wrap ((j : Int) + 1))) (.int .i64 ((j + 1 : Nat) : Int)) (by intro u; kernel_rfl) (i64_in (by omega) (by omega) (by omega))) ?_
    refine SOps.pures 1 (i' := 3) (m' := 0) (e' := [(6, .int .i64 ((j + 1 : Nat) : Int)), (21, .int .i64 ((j + 1 : Nat) : Int)), (20, .int .i64 (j : Int)), (0, .slice S n cap), (1, .func (.func 19) #[] #[.pointer (some ⟨pt, 0, none⟩)]), (5, .int .i64 ((i + 1 : Nat) : Int)), (6, .int .i64 (j : Int))]) (by intro u; kernel_rfl) ?_
    refine SOps.nil (.inl rfl) ?_
    refine At.pick [0, 1, 5, 6] (e' := [(0, .slice S n cap), (1, .func (.func 19) #[] #[.pointer (some ⟨pt, 0, none⟩)]), (5, .int .i64 ((i + 1 : Nat) : Int)), (6, .int .i64 ((j + 1 : Nat) : Int))]) (by kernel_rfl) ?_
    refine At.keep [2, 0] (B := [Grow S cap 31 3 n ((c.set i (c.getD j s0)).flatMap encG), Cells pt 3 [.int .i64 tm]]) (D := [Cells bx2 31 [.int .i64 ((c.getD j s0).no), .int .i64 ((c.getD j s0).timer), .int .i64 ((c.getD j s0).over)]]) rfl ?_
    exact ih (i + 1) (j + 1) _ (by omega) (hT.stays (by omega) (by assumption))
   ·have hx3 : (isT tm (c.getD j s0)) = true := by simpa using hx3
    refine At.cond 300 false (c := .tmp 29) (k1 := pt18_6) (k2 := pt18_7) (by kernel_rfl) (by intro u; kernel_rfl) (fun h => by cases h) (fun _ => ?_)
    refine At.pick [0, 1, 5, 6] (e' := [(0, .slice S n cap), (1, .func (.func 19) #[] #[.pointer (some ⟨pt, 0, none⟩)]), (5, .int .i64 (i : Int)), (6, .int .i64 (j : Int))]) (by kernel_rfl) ?_
    refine At.region (ops := opt18_7) (m := 3) (k' := kt18_2) (by kernel_rfl) 300 (k'' := pt18_0) (by kernel_rfl) ?_
    refine SOps.pures 1 (i' := 1) (m' := 2) (e' := [(20, .int .i64 (j : Int)), (0, .slice S n cap), (1, .func (.func 19) #[] #[.pointer (some ⟨pt, 0, none⟩)]), (5, .int .i64 (i : Int)), (6, .int .i64 (j : Int))]) (by intro u; kernel_rfl) ?_
    refine SOps.v (Val.pe 21 (.int .i64 (IntKind.i64.wrap ((j : Int) + 1))) (.int .i64 ((j + 1 : Nat) : Int)) (by intro u; kernel_rfl) (i64_in (by omega) (by omega) (by omega))) ?_
    refine SOps.pures 1 (i' := 3) (m' := 0) (e' := [(6, .int .i64 ((j + 1 : Nat) : Int)), (21, .int .i64 ((j + 1 : Nat) : Int)), (20, .int .i64 (j : Int)), (0, .slice S n cap), (1, .func (.func 19) #[] #[.pointer (some ⟨pt, 0, none⟩)]), (5, .int .i64 (i : Int)), (6, .int .i64 (j : Int))]) (by intro u; kernel_rfl) ?_
    refine SOps.nil (.inl rfl) ?_
    refine At.pick [0, 1, 5, 6] (e' := [(0, .slice S n cap), (1, .func (.func 19) #[] #[.pointer (some ⟨pt, 0, none⟩)]), (5, .int .i64 (i : Int)), (6, .int .i64 ((j + 1 : Nat) : Int))]) (by kernel_rfl) ?_
    refine At.keep [2, 0] (B := [Grow S cap 31 3 n (c.flatMap encG), Cells pt 3 [.int .i64 tm]]) (D := [Cells bx2 31 [.int .i64 ((c.getD j s0).no), .int .i64 ((c.getD j s0).timer), .int .i64 ((c.getD j s0).over)]]) rfl ?_
    exact ih i (j + 1) c (by omega) (hT.gone (by omega) (by assumption))
  ·have hx1 : (j : Int) ≥ (n : Int) := by simpa using hx1
   refine At.cond 300 false (c := .tmp 19) (k1 := pt18_2) (k2 := pt18_3) (by kernel_rfl) (by intro u; kernel_rfl) (fun h => by cases h) (fun _ => ?_)
   refine At.pick [0, 5] (e' := [(0, .slice S n cap), (5, .int .i64 (i : Int))]) (by kernel_rfl) ?_
   have hij := hT.ij
   have hcl := hT.len.trans hl
   refine At.region (ops := opt18_3) (m := 4) (k' := kt18_8) (by kernel_rfl) 300 (k'' := pt18_9) (by kernel_rfl) ?_
   refine SOps.pures 2 (i' := 2) (m' := 2) (e' := [(37, .int .i64 (i : Int)), (36, .slice S n cap), (0, .slice S n cap), (5, .int .i64 (i : Int))]) (by intro u; kernel_rfl) ?_
   refine SOps.learn (fun F w ho => Grow.some (j := 0) ho rfl) (fun gx2 => ?_)
   obtain ⟨gx2a, gx2b, gx2c, gx2d⟩ := gx2
   refine SOps.v (Val.pv 38 (vN (Instr.sliceAt 26 (.slice S n cap) (some (.int .i64 (i : Int))) none none)) (.slice (subS S i cap 3) (n - i) (cap - i)) (by intro u; kernel_rfl) (pv_sliceLoO (el := 31) (sz := 3) (by kernel_rfl) (by kernel_rfl) (by omega) (by omega) (by omega))) ?_
   refine SOps.o (Op.clearN 0 (ty := 0) (q := n - i) (c := cap - i) el_26 (A' := [Grow S cap 31 3 n (upd (c.flatMap encG) (i * 3) (List.replicate (n - i) [.int .i64 0, .int .i64 0, .int .i64 0]).flatten), Cells pt 3 [.int .i64 tm]]) rfl (by intro u; kernel_rfl) rfl (WrOf.sub i (by rw [flat_len encG 3 (fun _ => rfl)]; simp; omega) rfl) rfl ?_)
   refine SOps.nil (.inl rfl) ?_
   refine At.pick [0, 5] (e' := [(0, .slice S n cap), (5, .int .i64 (i : Int))]) (by kernel_rfl) ?_
   refine At.region (ops := opt18_9) (m := 4) (k' := kt18_11) (by kernel_rfl) 300 (k'' := pt18_10) (by kernel_rfl) ?_
   refine SOps.pures 2 (i' := 2) (m' := 2) (e' := [(40, .int .i64 (i : Int)), (39, .slice S n cap), (0, .slice S n cap), (5, .int .i64 (i : Int))]) (by intro u; kernel_rfl) ?_
   refine SOps.v (Val.pv 41 (vN (Instr.sliceAt 26 (.slice S n cap) none (some (.int .i64 (i : Int))) none)) (.slice S i cap) (by intro u; kernel_rfl) (pv_sliceHiO (el := 31) (sz := 3) (by kernel_rfl) (by kernel_rfl) (by omega) (by omega) (by omega))) ?_
   refine SOps.pures 1 (i' := 4) (m' := 0) (e' := [(4, .slice S i cap), (41, .slice S i cap), (40, .int .i64 (i : Int)), (39, .slice S n cap), (0, .slice S n cap), (5, .int .i64 (i : Int))]) (by intro u; kernel_rfl) ?_
   refine SOps.nil (.inl rfl) ?_
   refine At.pick [4] (e' := [(4, .slice S i cap)]) (by kernel_rfl) ?_
   refine At.ret1 (fn := Try.f18) (v := .slice S i cap) (t := 4) (by kernel_rfl) Try.func18 (by kernel_rfl) (by kernel_rfl) (fun F w ho => ?_)
   have e : c.take i = dropL l tm := hT.done (by omega)
   have hi2 : (dropL l tm).length = i := by rw [← e, List.length_take]; have := hT.ij; have := hT.len; have := hT.jl; omega
   have ho' := Grow.cut_at (j := 0) i (by have := hT.ij; have := hT.jl; omega) (clear_cut encG 3 (fun _ => rfl) c (hT.len.trans hl) (by have := hT.ij; have := hT.jl; omega) (by simp)) rfl ho
   rw [hi2]; rw [e] at ho'
   exact shutS [0, 0] rfl ho'
theorem delFuncG (S : Option Addr) (n cap : Nat) (l : List Sig) (hl : l.length = n) (hn : n ≤ 200) (tm : Int) (pt : Nat) : Ctr Try.prog 18 #[.slice S n cap, .func (.func 19) #[] #[.pointer (some ⟨pt, 0, none⟩)]] [Grow S cap 31 3 n (l.flatMap encG), Cells pt 3 [.int .i64 tm]] (fun v' => star (fact (v' = .slice S (dropL l tm).length cap) :: [Grow S cap 31 3 (dropL l tm).length ((dropL l tm).flatMap encG), Cells pt 3 [.int .i64 tm]])) false := by
 refine spec_of_at (fn := Try.f18) (c := bd18) (args := [.slice S n cap, .func (.func 19) #[] #[.pointer (some ⟨pt, 0, none⟩)]]) (n := 42) (e := [(0, .slice S n cap), (1, .func (.func 19) #[] #[.pointer (some ⟨pt, 0, none⟩)])]) (k := pt18_11) Try.func18 (by kernel_rfl) (by kernel_rfl) (by kernel_rfl) (by kernel_rfl) 300 (by kernel_rfl) ?_
 refine At.region (ops := opt18_11) (m := 1) (k' := kt18_12) (by kernel_rfl) 300 (k'' := pt18_12) (by kernel_rfl) ?_
 refine SOps.pures 1 (i' := 1) (m' := 0) (e' := [(4, .slice none 0 0), (0, .slice S n cap), (1, .func (.func 19) #[] #[.pointer (some ⟨pt, 0, none⟩)])]) (by intro u; kernel_rfl) ?_
 refine SOps.nil (.inl rfl) ?_
 refine At.pick [0, 1] (e' := [(0, .slice S n cap), (1, .func (.func 19) #[] #[.pointer (some ⟨pt, 0, none⟩)])]) (by kernel_rfl) ?_
 refine At.region (ops := opt18_12) (m := 4) (k' := kt18_13) (by kernel_rfl) 300 (k'' := pt18_13) (by kernel_rfl) ?_
 refine SOps.pures 2 (i' := 2) (m' := 2) (e' := [(9, .func (.func 19) #[] #[.pointer (some ⟨pt, 0, none⟩)]), (8, .slice S n cap), (0, .slice S n cap), (1, .func (.func 19) #[] #[.pointer (some ⟨pt, 0, none⟩)])]) (by intro u; kernel_rfl) ?_
 refine SOps.o (Op.callS 10 15 #[.slice S n cap, .func (.func 19) #[] #[.pointer (some ⟨pt, 0, none⟩)]] (.int .i64 (idxI (l.findIdx? (isT tm)))) [0, 0] (B := [Grow S cap 31 3 n (l.flatMap encG), Cells pt 3 [.int .i64 tm]]) (D := []) (by intro u; kernel_rfl) (indexDrop S n cap l hl hn tm pt) (by first | exact .inr rfl | exact .inl rfl) (by kernel_rfl) ?_)
 refine SOps.pures 1 (i' := 4) (m' := 0) (e' := [(5, .int .i64 (idxI (l.findIdx? (isT tm)))), (10, .int .i64 (idxI (l.findIdx? (isT tm)))), (9, .func (.func 19) #[] #[.pointer (some ⟨pt, 0, none⟩)]), (8, .slice S n cap), (0, .slice S n cap), (1, .func (.func 19) #[] #[.pointer (some ⟨pt, 0, none⟩)])]) (by intro u; kernel_rfl) ?_
 refine SOps.nil (.inl rfl) ?_
 refine At.pick [0, 1, 5] (e' := [(0, .slice S n cap), (1, .func (.func 19) #[] #[.pointer (some ⟨pt, 0, none⟩)]), (5, .int .i64 (idxI (l.findIdx? (isT tm))))]) (by kernel_rfl) ?_
 cases hO : l.findIdx? (isT tm) with
 | none =>
  show At _ _ [(0, .slice S n cap), (1, .func (.func 19) #[] #[.pointer (some ⟨pt, 0, none⟩)]), (5, .int .i64 (-1))] _
  refine At.region (ops := opt18_13) (m := 2) (k' := kt18_15) (by kernel_rfl) 300 (k'' := pt18_14) (by kernel_rfl) ?_
  refine SOps.pures 2 (i' := 2) (m' := 0) (e' := [(12, .bool true), (11, .int .i64 (-1)), (0, .slice S n cap), (1, .func (.func 19) #[] #[.pointer (some ⟨pt, 0, none⟩)]), (5, .int .i64 (-1))]) (by intro u; kernel_rfl) ?_
  refine SOps.nil (.inl rfl) ?_
  refine At.pick [0, 1, 5, 12] (e' := [(0, .slice S n cap), (1, .func (.func 19) #[] #[.pointer (some ⟨pt, 0, none⟩)]), (5, .int .i64 (-1)), (12, .bool true)]) (by kernel_rfl) ?_
  refine At.cond 300 true (c := .tmp 12) (k1 := pt18_15) (k2 := pt18_16) (by kernel_rfl) (by intro u; kernel_rfl) (fun _ => ?_) (fun h => by cases h)
  refine At.pick [0] (e' := [(0, .slice S n cap)]) (by kernel_rfl) ?_
  refine At.region (ops := opt18_15) (m := 2) (k' := kt18_16) (by kernel_rfl) 300 (k'' := pt18_17) (by kernel_rfl) ?_
  refine SOps.pures 2 (i' := 2) (m' := 0) (e' := [(4, .slice S n cap), (13, .slice S n cap), (0, .slice S n cap)]) (by intro u; kernel_rfl) ?_
  refine SOps.nil (.inl rfl) ?_
  refine At.pick [4] (e' := [(4, .slice S n cap)]) (by kernel_rfl) ?_
  refine At.ret1 (fn := Try.f18) (v := .slice S n cap) (t := 4) (by kernel_rfl) Try.func18 (by kernel_rfl) (by kernel_rfl) (fun F w ho => ?_)
  have e : dropL l tm = l := filter_none hO
  rw [e]; subst hl
  exact shutS [0, 0] rfl ho
 | some k =>
  have hT := Thin.start hO
  have hkl := hT.jl
  show At _ _ [(0, .slice S n cap), (1, .func (.func 19) #[] #[.pointer (some ⟨pt, 0, none⟩)]), (5, .int .i64 (k : Int))] _
  refine At.region (ops := opt18_13) (m := 2) (k' := kt18_15) (by kernel_rfl) 300 (k'' := pt18_14) (by kernel_rfl) ?_
  refine SOps.pures 2 (i' := 2) (m' := 0) (e' := [(12, .bool ((k : Int) == (-1))), (11, .int .i64 (k : Int)), (0, .slice S n cap), (1, .func (.func 19) #[] #[.pointer (some ⟨pt, 0, none⟩)]), (5, .int .i64 (k : Int))]) (by intro u; kernel_rfl) ?_
  refine SOps.nil (.inl rfl) ?_
  refine At.pick [0, 1, 5, 12] (e' := [(0, .slice S n cap), (1, .func (.func 19) #[] #[.pointer (some ⟨pt, 0, none⟩)]), (5, .int .i64 (k : Int)), (12, .bool ((k : Int) == (-1)))]) (by kernel_rfl) ?_
  refine At.split (fun zq => [(0, .slice S n cap), (1, .func (.func 19) #[] #[.pointer (some ⟨pt, 0, none⟩)]), (5, .int .i64 (k : Int)), (12, .bool zq)]) (((k : Int) == (-1))) (fun hx1 => ?_) (fun hx1 => ?_)
  ·have hx1 : (k : Int) = -1 := by simpa using hx1
   exact absurd hx1 (by omega)
  ·have hx1 : (k : Int) ≠ -1 := by simpa using hx1
   refine At.cond 300 false (c := .tmp 12) (k1 := pt18_15) (k2 := pt18_16) (by kernel_rfl) (by intro u; kernel_rfl) (fun h => by cases h) (fun _ => ?_)
   refine At.pick [0, 1, 5] (e' := [(0, .slice S n cap), (1, .func (.func 19) #[] #[.pointer (some ⟨pt, 0, none⟩)]), (5, .int .i64 (k : Int))]) (by kernel_rfl) ?_
   refine At.region (ops := opt18_16) (m := 3) (k' := kt18_17) (by kernel_rfl) 300 (k'' := pt18_0) (by kernel_rfl) ?_
   refine SOps.pures 1 (i' := 1) (m' := 2) (e' := [(14, .int .i64 (k : Int)), (0, .slice S n cap), (1, .func (.func 19) #[] #[.pointer (some ⟨pt, 0, none⟩)]), (5, .int .i64 (k : Int))]) (by intro u; kernel_rfl) ?_
   refine SOps.v (Val.pe 15 (.int .i64 (IntKind.i64.wrap ((k : Int) + 1))) (.int .i64 ((k + 1 : Nat) : Int)) (by intro u; kernel_rfl) (i64_in (by omega) (by omega) (by omega))) ?_
   refine SOps.pures 1 (i' := 3) (m' := 0) (e' := [(6, .int .i64 ((k + 1 : Nat) : Int)), (15, .int .i64 ((k + 1 : Nat) : Int)), (14, .int .i64 (k : Int)), (0, .slice S n cap), (1, .func (.func 19) #[] #[.pointer (some ⟨pt, 0, none⟩)]), (5, .int .i64 (k : Int))]) (by intro u; kernel_rfl) ?_
   refine SOps.nil (.inl rfl) ?_
   refine At.pick [0, 1, 5, 6] (e' := [(0, .slice S n cap), (1, .func (.func 19) #[] #[.pointer (some ⟨pt, 0, none⟩)]), (5, .int .i64 (k : Int)), (6, .int .i64 ((k + 1 : Nat) : Int))]) (by kernel_rfl) ?_
   refine At.keep [0, 0] (B := [Grow S cap 31 3 n (l.flatMap encG), Cells pt 3 [.int .i64 tm]]) (D := []) rfl ?_
   exact delFunc_loop S n cap l hl hn tm pt (n + 1) k (k + 1) l (by omega) hT
noncomputable def bd10 : Code := (Try.f10.body).getD .skip
noncomputable def kt10_0 : List Item := .code (pick [1] bd10) :: []
noncomputable def pt10_0 : List Item := .code (pick [0] bd10) :: kt10_0
noncomputable def opt10_0 : Array Oper := opsOf (pick [0] bd10)
noncomputable def kt10_1 : List Item := .code (pick [1, 1] bd10) :: []
noncomputable def kt10_2 : List Item := .code (pick [1, 0, 1] bd10) :: kt10_1
noncomputable def pt10_1 : List Item := .code (pick [1, 0, 0] bd10) :: kt10_2
noncomputable def opt10_1 : Array Oper := opsOf (pick [1, 0, 0] bd10)
noncomputable def pt10_2 : List Item := .code (pick [1, 0, 1] bd10) :: kt10_1
noncomputable def kt10_3 : List Item := .code (pick [1, 0, 1, 0, 1] bd10) :: kt10_1
noncomputable def pt10_3 : List Item := .code (pick [1, 0, 1, 0, 0] bd10) :: kt10_3
noncomputable def opt10_3 : Array Oper := opsOf (pick [1, 0, 1, 0, 0] bd10)
noncomputable def kt10_4 : List Item := .code (pick [1, 1, 1] bd10) :: []
noncomputable def pt10_4 : List Item := .code (pick [1, 1, 0] bd10) :: kt10_4
noncomputable def opt10_4 : Array Oper := opsOf (pick [1, 1, 0] bd10)
noncomputable def kt10_5 : List Item := .code (pick [1, 1, 1, 1] bd10) :: []
noncomputable def pt10_5 : List Item := .code (pick [1, 1, 1, 0] bd10) :: kt10_5
noncomputable def opt10_5 : Array Oper := opsOf (pick [1, 1, 1, 0] bd10)
noncomputable def kt10_6 : List Item := .code (pick [1, 1, 1, 1, 1] bd10) :: []
noncomputable def pt10_6 : List Item := .code (pick [1, 1, 1, 1, 0] bd10) :: kt10_6
noncomputable def opt10_6 : Array Oper := opsOf (pick [1, 1, 1, 1, 0] bd10)
noncomputable def pt10_7 : List Item := .code (pick [1, 1, 1, 1, 1] bd10) :: []
noncomputable def pt10_8 : List Item := .code (pick [1, 0, 1, 0, 1] bd10) :: kt10_1
theorem dropM (q : Nat) (l : List Sig) (bv : BitVec 64) (hg : GoodG l) (tm : Int) : Ctr Try.prog 10 #[.pointer (some ⟨q, 0, none⟩), .int .i64 tm] [QuC q l bv] (fun v' => star (fact (v' = .int .i64 ((l.length : Int) - ((dropL l tm).length : Int))) :: [QuC q (dropL l tm) bv])) false := by
 refine spec_of_at (fn := Try.f10) (c := bd10) (args := [.pointer (some ⟨q, 0, none⟩), .int .i64 tm]) (n := 29) (e := [(0, .pointer (some ⟨q, 0, none⟩)), (1, .int .i64 tm)]) (k := pt10_0) Try.func10 (by kernel_rfl) (by kernel_rfl) (by kernel_rfl) (by kernel_rfl) 300 (by kernel_rfl) ?_
 have hlen := hg.1
 refine At.conseq (fun F w ho => QuC.open_ ho) (fun x => ?_)
 obtain ⟨S, cap⟩ := x
 refine At.region (ops := opt10_0) (m := 2) (k' := kt10_0) (by kernel_rfl) 300 (k'' := pt10_1) (by kernel_rfl) ?_
 refine SOps.o (Op.new 3 3 [.int .i64 tm] (fun b => .pointer (some ⟨b, 0, none⟩)) (by intro u b; kernel_rfl) ?_)
 intro bx1
 refine SOps.pures 1 (i' := 2) (m' := 0) (e' := [(4, .int .i64 0), (3, .pointer (some ⟨bx1, 0, none⟩)), (0, .pointer (some ⟨q, 0, none⟩)), (1, .int .i64 tm)]) (by intro u; kernel_rfl) ?_
 refine SOps.nil (.inl rfl) ?_
 refine At.pick [0, 3] (e' := [(0, .pointer (some ⟨q, 0, none⟩)), (3, .pointer (some ⟨bx1, 0, none⟩))]) (by kernel_rfl) ?_
 refine At.region (ops := opt10_1) (m := 2) (k' := kt10_2) (by kernel_rfl) 300 (k'' := pt10_2) (by kernel_rfl) ?_
 refine SOps.pures 2 (i' := 2) (m' := 0) (e' := [(7, .bool false), (6, .pointer (some ⟨q, 0, none⟩)), (0, .pointer (some ⟨q, 0, none⟩)), (3, .pointer (some ⟨bx1, 0, none⟩))]) (by intro u; kernel_rfl) ?_
 refine SOps.nil (.inl rfl) ?_
 refine At.pick [0, 3, 7] (e' := [(0, .pointer (some ⟨q, 0, none⟩)), (3, .pointer (some ⟨bx1, 0, none⟩)), (7, .bool false)]) (by kernel_rfl) ?_
 refine At.cond 300 false (c := .tmp 7) (k1 := pt10_3) (k2 := pt10_4) (by kernel_rfl) (by intro u; kernel_rfl) (fun h => by cases h) (fun _ => ?_)
 refine At.pick [0, 3] (e' := [(0, .pointer (some ⟨q, 0, none⟩)), (3, .pointer (some ⟨bx1, 0, none⟩))]) (by kernel_rfl) ?_
 refine At.region (ops := opt10_4) (m := 6) (k' := kt10_4) (by kernel_rfl) 300 (k'' := pt10_5) (by kernel_rfl) ?_
 refine SOps.pures 3 (i' := 3) (m' := 3) (e' := [(10, .pointer (some ⟨q, 0, none⟩)), (9, .pointer (some ⟨q, 0, none⟩)), (8, .pointer (some ⟨q, 0, none⟩)), (0, .pointer (some ⟨q, 0, none⟩)), (3, .pointer (some ⟨bx1, 0, none⟩))]) (by intro u; kernel_rfl) ?_
 refine SOps.v (Val.ld1 1 11 26 q 0 (.slice S l.length cap) rfl (by intro u; kernel_rfl) (by kernel_rfl) (Rd.cells rfl)) ?_
 refine SOps.pures 2 (i' := 6) (m' := 0) (e' := [(5, .int .i64 ((l.length : Nat) : Int)), (12, .int .i64 ((l.length : Nat) : Int)), (11, .slice S l.length cap), (10, .pointer (some ⟨q, 0, none⟩)), (9, .pointer (some ⟨q, 0, none⟩)), (8, .pointer (some ⟨q, 0, none⟩)), (0, .pointer (some ⟨q, 0, none⟩)), (3, .pointer (some ⟨bx1, 0, none⟩))]) (by intro u; kernel_rfl) ?_
 refine SOps.nil (.inl rfl) ?_
 refine At.pick [0, 3, 5] (e' := [(0, .pointer (some ⟨q, 0, none⟩)), (3, .pointer (some ⟨bx1, 0, none⟩)), (5, .int .i64 ((l.length : Nat) : Int))]) (by kernel_rfl) ?_
 refine At.region (ops := opt10_5) (m := 10) (k' := kt10_5) (by kernel_rfl) 300 (k'' := pt10_6) (by kernel_rfl) ?_
 refine SOps.pures 4 (i' := 4) (m' := 6) (e' := [(16, .pointer (some ⟨q, 0, none⟩)), (15, .pointer (some ⟨q, 0, none⟩)), (14, .pointer (some ⟨q, 0, none⟩)), (13, .pointer (some ⟨q, 0, none⟩)), (0, .pointer (some ⟨q, 0, none⟩)), (3, .pointer (some ⟨bx1, 0, none⟩)), (5, .int .i64 ((l.length : Nat) : Int))]) (by intro u; kernel_rfl) ?_
 refine SOps.v (Val.ld1 1 17 26 q 0 (.slice S l.length cap) rfl (by intro u; kernel_rfl) (by kernel_rfl) (Rd.cells rfl)) ?_
 refine SOps.pures 1 (i' := 6) (m' := 4) (e' := [(18, .func (.func 19) #[] #[.pointer (some ⟨bx1, 0, none⟩)]), (17, .slice S l.length cap), (16, .pointer (some ⟨q, 0, none⟩)), (15, .pointer (some ⟨q, 0, none⟩)), (14, .pointer (some ⟨q, 0, none⟩)), (13, .pointer (some ⟨q, 0, none⟩)), (0, .pointer (some ⟨q, 0, none⟩)), (3, .pointer (some ⟨bx1, 0, none⟩)), (5, .int .i64 ((l.length : Nat) : Int))]) (by intro u; kernel_rfl) ?_
 refine SOps.o (Op.callS 19 18 #[.slice S l.length cap, .func (.func 19) #[] #[.pointer (some ⟨bx1, 0, none⟩)]] (.slice S ((dropL l tm).length) cap) [2, 0] (B := [Grow S cap 31 3 l.length (l.flatMap encG), Cells bx1 3 [.int .i64 tm]]) (D := [Cells q 42 [.slice S l.length cap, .int .u64 (bv.toNat : Int)]]) (by intro u; kernel_rfl) (delFuncG S l.length cap l rfl (by omega) tm bx1) (by first | exact .inr rfl | exact .inl rfl) (by kernel_rfl) ?_)
 refine SOps.pures 2 (i' := 9) (m' := 1) (e' := [(21, .pointer (some ⟨q, 0, none⟩)), (20, .pointer (some ⟨q, 0, none⟩)), (19, .slice S ((dropL l tm).length) cap), (18, .func (.func 19) #[] #[.pointer (some ⟨bx1, 0, none⟩)]), (17, .slice S l.length cap), (16, .pointer (some ⟨q, 0, none⟩)), (15, .pointer (some ⟨q, 0, none⟩)), (14, .pointer (some ⟨q, 0, none⟩)), (13, .pointer (some ⟨q, 0, none⟩)), (0, .pointer (some ⟨q, 0, none⟩)), (3, .pointer (some ⟨bx1, 0, none⟩)), (5, .int .i64 ((l.length : Nat) : Int))]) (by intro u; kernel_rfl) ?_
 refine SOps.o (Op.st 2 26 q 0 (.slice S ((dropL l tm).length) cap) [.slice S ((dropL l tm).length) cap] 1 (B' := Cells q 42 [.slice S ((dropL l tm).length) cap, .int .u64 (bv.toNat : Int)]) (A' := [Grow S cap 31 3 ((dropL l tm).length) ((dropL l tm).flatMap encG), Cells bx1 3 [.int .i64 tm], Cells q 42 [.slice S ((dropL l tm).length) cap, .int .u64 (bv.toNat : Int)]]) rfl (by intro u; kernel_rfl) rfl (by kernel_rfl) rfl rfl (Wr.cells rfl rfl) rfl ?_)
 refine SOps.nil (.inl rfl) ?_
 refine At.pick [0, 5] (e' := [(0, .pointer (some ⟨q, 0, none⟩)), (5, .int .i64 ((l.length : Nat) : Int))]) (by kernel_rfl) ?_
 have hfl : (dropL l tm).length ≤ l.length := List.length_filter_le _ _
 refine At.region (ops := opt10_6) (m := 8) (k' := kt10_6) (by kernel_rfl) 300 (k'' := pt10_7) (by kernel_rfl) ?_
 refine SOps.pures 4 (i' := 4) (m' := 4) (e' := [(25, .pointer (some ⟨q, 0, none⟩)), (24, .pointer (some ⟨q, 0, none⟩)), (23, .pointer (some ⟨q, 0, none⟩)), (22, .int .i64 ((l.length : Nat) : Int)), (0, .pointer (some ⟨q, 0, none⟩)), (5, .int .i64 ((l.length : Nat) : Int))]) (by intro u; kernel_rfl) ?_
 refine SOps.v (Val.ld1 2 26 26 q 0 (.slice S ((dropL l tm).length) cap) rfl (by intro u; kernel_rfl) (by kernel_rfl) (Rd.cells rfl)) ?_
 refine SOps.pures 1 (i' := 6) (m' := 2) (e' := [(27, .int .i64 (((dropL l tm).length : Nat) : Int)), (26, .slice S ((dropL l tm).length) cap), (25, .pointer (some ⟨q, 0, none⟩)), (24, .pointer (some ⟨q, 0, none⟩)), (23, .pointer (some ⟨q, 0, none⟩)), (22, .int .i64 ((l.length : Nat) : Int)), (0, .pointer (some ⟨q, 0, none⟩)), (5, .int .i64 ((l.length : Nat) : Int))]) (by intro u; kernel_rfl) ?_
 refine SOps.v (Val.pe 28 (.int .i64 (IntKind.i64.wrap (((l.length : Nat) : Int) - (((dropL l tm).length : Nat) : Int)))) (.int .i64 ((l.length - ((dropL l tm).length) : Nat) : Int)) (by intro u; kernel_rfl) (i64_in (by omega) (by omega) (by omega))) ?_
 refine SOps.pures 1 (i' := 8) (m' := 0) (e' := [(4, .int .i64 ((l.length - ((dropL l tm).length) : Nat) : Int)), (28, .int .i64 ((l.length - ((dropL l tm).length) : Nat) : Int)), (27, .int .i64 (((dropL l tm).length : Nat) : Int)), (26, .slice S ((dropL l tm).length) cap), (25, .pointer (some ⟨q, 0, none⟩)), (24, .pointer (some ⟨q, 0, none⟩)), (23, .pointer (some ⟨q, 0, none⟩)), (22, .int .i64 ((l.length : Nat) : Int)), (0, .pointer (some ⟨q, 0, none⟩)), (5, .int .i64 ((l.length : Nat) : Int))]) (by intro u; kernel_rfl) ?_
 refine SOps.nil (.inl rfl) ?_
 refine At.pick [4] (e' := [(4, .int .i64 ((l.length - ((dropL l tm).length) : Nat) : Int))]) (by kernel_rfl) ?_
 refine At.ret1 (fn := Try.f10) (v := .int .i64 ((l.length - ((dropL l tm).length) : Nat) : Int)) (t := 4) (by kernel_rfl) Try.func10 (by kernel_rfl) (by kernel_rfl) (fun F w ho => ?_)
 have ho2 := QuC.close (l := dropL l tm) (bv := bv) rfl [2, 0] rfl ho
 exact shutV (by congr 1; first | rfl | omega) [0] rfl ho2
theorem dropN (tm : Int) : Ctr Try.prog 10 #[.pointer none, .int .i64 tm] [] (fun v' => star (fact (v' = .int .i64 0) :: [])) false := by
 refine spec_of_at (fn := Try.f10) (c := bd10) (args := [.pointer none, .int .i64 tm]) (n := 29) (e := [(0, .pointer none), (1, .int .i64 tm)]) (k := pt10_0) Try.func10 (by kernel_rfl) (by kernel_rfl) (by kernel_rfl) (by kernel_rfl) 300 (by kernel_rfl) ?_
 refine At.region (ops := opt10_0) (m := 2) (k' := kt10_0) (by kernel_rfl) 300 (k'' := pt10_1) (by kernel_rfl) ?_
 refine SOps.o (Op.new 3 3 [.int .i64 tm] (fun b => .pointer (some ⟨b, 0, none⟩)) (by intro u b; kernel_rfl) ?_)
 intro bx1
 refine SOps.pures 1 (i' := 2) (m' := 0) (e' := [(4, .int .i64 0), (3, .pointer (some ⟨bx1, 0, none⟩)), (0, .pointer none), (1, .int .i64 tm)]) (by intro u; kernel_rfl) ?_
 refine SOps.nil (.inl rfl) ?_
 refine At.pick [0, 3] (e' := [(0, .pointer none), (3, .pointer (some ⟨bx1, 0, none⟩))]) (by kernel_rfl) ?_
 refine At.region (ops := opt10_1) (m := 2) (k' := kt10_2) (by kernel_rfl) 300 (k'' := pt10_2) (by kernel_rfl) ?_
 refine SOps.pures 2 (i' := 2) (m' := 0) (e' := [(7, .bool true), (6, .pointer none), (0, .pointer none), (3, .pointer (some ⟨bx1, 0, none⟩))]) (by intro u; kernel_rfl) ?_
 refine SOps.nil (.inl rfl) ?_
 refine At.pick [0, 3, 7] (e' := [(0, .pointer none), (3, .pointer (some ⟨bx1, 0, none⟩)), (7, .bool true)]) (by kernel_rfl) ?_
 refine At.cond 300 true (c := .tmp 7) (k1 := pt10_3) (k2 := pt10_4) (by kernel_rfl) (by intro u; kernel_rfl) (fun _ => ?_) (fun h => by cases h)
 refine At.pick [] (e' := []) (by kernel_rfl) ?_
 refine At.region (ops := opt10_3) (m := 1) (k' := kt10_3) (by kernel_rfl) 300 (k'' := pt10_8) (by kernel_rfl) ?_
 refine SOps.pures 1 (i' := 1) (m' := 0) (e' := [(4, .int .i64 0)]) (by intro u; kernel_rfl) ?_
 refine SOps.nil (.inl rfl) ?_
 refine At.ret1 (fn := Try.f10) (v := .int .i64 0) (t := 4) (by kernel_rfl) Try.func10 (by kernel_rfl) (by kernel_rfl) (fun F w ho => ?_)
 exact shutV rfl [] rfl ho
end Go.Proofs.Sg
