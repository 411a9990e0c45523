/- Signals: one taken, sent, blocked, dropped. -/
import Derived.Test.YtncihgdaaoiaiaaSgB
namespace Go.Proofs.Sg
open Go Go.Sp Go.Sg
set_option linter.unusedVariables false
set_option linter.unusedSimpArgs false
set_option linter.unnecessarySimpa false
set_option maxRecDepth 100000
noncomputable def bd8 : Code := (Try.f8.body).getD .skip
noncomputable def kt8_0 : List Item := .code (pick [1] bd8) :: []
noncomputable def pt8_0 : List Item := .code (pick [0] bd8) :: kt8_0
noncomputable def opt8_0 : Array Oper := opsOf (pick [0] bd8)
noncomputable def kt8_1 : List Item := .code (pick [1, 1] bd8) :: []
noncomputable def pt8_1 : List Item := .code (pick [1, 0] bd8) :: kt8_1
noncomputable def opt8_1 : Array Oper := opsOf (pick [1, 0] bd8)
noncomputable def kt8_2 : List Item := .code (pick [1, 1, 1] bd8) :: []
noncomputable def kt8_3 : List Item := .code (pick [1, 1, 0, 1] bd8) :: kt8_2
noncomputable def pt8_2 : List Item := .code (pick [1, 1, 0, 0] bd8) :: kt8_3
noncomputable def opt8_2 : Array Oper := opsOf (pick [1, 1, 0, 0] bd8)
noncomputable def pt8_3 : List Item := .code (pick [1, 1, 0, 1] bd8) :: kt8_2
noncomputable def kt8_4 : List Item := .code (pick [1, 1, 0, 1, 0, 1] bd8) :: kt8_2
noncomputable def pt8_4 : List Item := .code (pick [1, 1, 0, 1, 0, 0] bd8) :: kt8_4
noncomputable def opt8_4 : Array Oper := opsOf (pick [1, 1, 0, 1, 0, 0] bd8)
noncomputable def kt8_5 : List Item := .code (pick [1, 1, 1, 1] bd8) :: []
noncomputable def pt8_5 : List Item := .code (pick [1, 1, 1, 0] bd8) :: kt8_5
noncomputable def opt8_5 : Array Oper := opsOf (pick [1, 1, 1, 0] bd8)
noncomputable def pt8_6 : List Item := .code (pick [1, 1, 0, 1, 0, 1] bd8) :: kt8_2
noncomputable def kt8_6 : List Item := .code (pick [1, 1, 1, 1, 1] bd8) :: []
noncomputable def pt8_7 : List Item := .code (pick [1, 1, 1, 1, 0] bd8) :: kt8_6
noncomputable def opt8_7 : Array Oper := opsOf (pick [1, 1, 1, 1, 0] bd8)
noncomputable def kt8_7 : List Item := .code (pick [1, 1, 1, 1, 1, 1] bd8) :: []
noncomputable def pt8_8 : List Item := .code (pick [1, 1, 1, 1, 1, 0] bd8) :: kt8_7
noncomputable def opt8_8 : Array Oper := opsOf (pick [1, 1, 1, 1, 1, 0] bd8)
noncomputable def pt8_9 : List Item := .code (pick [1, 1, 1, 1, 1, 1] bd8) :: []
theorem takeM (q : Nat) (l : List Sig) (bv : BitVec 64) (hg : GoodG l) : Ctr Try.prog 8 #[.pointer (some ⟨q, 0, none⟩)] [QuC q l bv] (fun v' => star (fact (v' = .tuple #[.agg (encG (takeS l bv)).toArray, .bool (openI l bv).isSome]) :: [QuC q (takeL l bv) bv])) false := by
 refine spec_of_at (fn := Try.f8) (c := bd8) (args := [.pointer (some ⟨q, 0, none⟩)]) (n := 30) (e := [(0, .pointer (some ⟨q, 0, none⟩))]) (k := pt8_0) Try.func8 (by kernel_rfl) (by kernel_rfl) (by kernel_rfl) (by kernel_rfl) 300 (by kernel_rfl) ?_
 have hlen := hg.1
 refine At.region (ops := opt8_0) (m := 2) (k' := kt8_0) (by kernel_rfl) 300 (k'' := pt8_1) (by kernel_rfl) ?_
 refine SOps.o (Op.new 2 31 [.int .i64 0, .int .i64 0, .int .i64 0] (fun b => .pointer (some ⟨b, 0, none⟩)) (by intro u b; kernel_rfl) ?_)
 intro bx1
 refine SOps.pures 1 (i' := 2) (m' := 0) (e' := [(3, .bool false), (2, .pointer (some ⟨bx1, 0, none⟩)), (0, .pointer (some ⟨q, 0, none⟩))]) (by intro u; kernel_rfl) ?_
 refine SOps.nil (.inl rfl) ?_
 refine At.pick [0, 2] (e' := [(0, .pointer (some ⟨q, 0, none⟩)), (2, .pointer (some ⟨bx1, 0, none⟩))]) (by kernel_rfl) ?_
 refine At.region (ops := opt8_1) (m := 3) (k' := kt8_1) (by kernel_rfl) 300 (k'' := pt8_2) (by kernel_rfl) ?_
 refine SOps.pures 1 (i' := 1) (m' := 2) (e' := [(6, .pointer (some ⟨q, 0, none⟩)), (0, .pointer (some ⟨q, 0, none⟩)), (2, .pointer (some ⟨bx1, 0, none⟩))]) (by intro u; kernel_rfl) ?_
 refine SOps.o (Op.callS 7 12 #[.pointer (some ⟨q, 0, none⟩)] (.int .i64 (idxI (openI l bv))) [1] (B := [QuC q l bv]) (D := [Cells bx1 31 [.int .i64 0, .int .i64 0, .int .i64 0]]) (by intro u; kernel_rfl) (openM q l bv hg) (by first | exact .inr rfl | exact .inl rfl) (by kernel_rfl) ?_)
 refine SOps.pures 1 (i' := 3) (m' := 0) (e' := [(4, .int .i64 (idxI (openI l bv))), (7, .int .i64 (idxI (openI l bv))), (6, .pointer (some ⟨q, 0, none⟩)), (0, .pointer (some ⟨q, 0, none⟩)), (2, .pointer (some ⟨bx1, 0, none⟩))]) (by intro u; kernel_rfl) ?_
 refine SOps.nil (.inl rfl) ?_
 refine At.pick [0, 2, 4] (e' := [(0, .pointer (some ⟨q, 0, none⟩)), (2, .pointer (some ⟨bx1, 0, none⟩)), (4, .int .i64 (idxI (openI l bv)))]) (by kernel_rfl) ?_
 cases hO : openI l bv with
 | none =>
  show At _ _ [(0, .pointer (some ⟨q, 0, none⟩)), (2, .pointer (some ⟨bx1, 0, none⟩)), (4, .int .i64 (-1))] _
  refine At.region (ops := opt8_2) (m := 2) (k' := kt8_3) (by kernel_rfl) 300 (k'' := pt8_3) (by kernel_rfl) ?_
  refine SOps.pures 2 (i' := 2) (m' := 0) (e' := [(9, .bool true), (8, .int .i64 (-1)), (0, .pointer (some ⟨q, 0, none⟩)), (2, .pointer (some ⟨bx1, 0, none⟩)), (4, .int .i64 (-1))]) (by intro u; kernel_rfl) ?_
  refine SOps.nil (.inl rfl) ?_
  refine At.pick [0, 2, 4, 9] (e' := [(0, .pointer (some ⟨q, 0, none⟩)), (2, .pointer (some ⟨bx1, 0, none⟩)), (4, .int .i64 (-1)), (9, .bool true)]) (by kernel_rfl) ?_
  refine At.cond 300 true (c := .tmp 9) (k1 := pt8_4) (k2 := pt8_5) (by kernel_rfl) (by intro u; kernel_rfl) (fun _ => ?_) (fun h => by cases h)
  refine At.pick [2] (e' := [(2, .pointer (some ⟨bx1, 0, none⟩))]) (by kernel_rfl) ?_
  refine At.region (ops := opt8_4) (m := 3) (k' := kt8_4) (by kernel_rfl) 300 (k'' := pt8_6) (by kernel_rfl) ?_
  refine SOps.pures 1 (i' := 1) (m' := 2) (e' := [(10, .agg #[.int .i64 0, .int .i64 0, .int .i64 0]), (2, .pointer (some ⟨bx1, 0, none⟩))]) (by intro u; kernel_rfl) ?_
  refine SOps.o (Op.st 1 31 bx1 0 (.agg #[.int .i64 0, .int .i64 0, .int .i64 0]) [.int .i64 0, .int .i64 0, .int .i64 0] 3 (B' := Cells bx1 31 [.int .i64 0, .int .i64 0, .int .i64 0]) (A' := [QuC q l bv, Cells bx1 31 [.int .i64 0, .int .i64 0, .int .i64 0]]) rfl (by intro u; kernel_rfl) rfl (by kernel_rfl) rfl rfl (Wr.cells rfl rfl) rfl ?_)
  refine SOps.pures 1 (i' := 3) (m' := 0) (e' := [(3, .bool false), (10, .agg #[.int .i64 0, .int .i64 0, .int .i64 0]), (2, .pointer (some ⟨bx1, 0, none⟩))]) (by intro u; kernel_rfl) ?_
  refine SOps.nil (.inl rfl) ?_
  refine At.pick [2, 3] (e' := [(2, .pointer (some ⟨bx1, 0, none⟩)), (3, .bool false)]) (by kernel_rfl) ?_
  refine At.retCT 1 (fn := Try.f8) (v := .tuple #[.agg #[.int .i64 0, .int .i64 0, .int .i64 0], .bool false]) (a := 2) (ty := 31) (b := bx1) (o := 0) (n := 3) (t := 3) (u := .bool false) (vs := [.int .i64 0, .int .i64 0, .int .i64 0]) (by kernel_rfl) Try.func8 (by kernel_rfl) (by kernel_rfl) (by kernel_rfl) rfl (by kernel_rfl) (by kernel_rfl) rfl ⟨(Rd.cells rfl), (Rd.cells rfl), (Rd.cells rfl), trivial⟩ rfl (fun F w ho => ?_)
  have e1 : takeS l bv = s0 := by unfold takeS; rw [hO]
  have e2 : takeL l bv = l := by unfold takeL; rw [hO]
  rw [e1, e2]
  exact shutV rfl [0] rfl ho
 | some k =>
  have hlt := openI_lt hO
  show At _ _ [(0, .pointer (some ⟨q, 0, none⟩)), (2, .pointer (some ⟨bx1, 0, none⟩)), (4, .int .i64 (k : Int))] _
  refine At.region (ops := opt8_2) (m := 2) (k' := kt8_3) (by kernel_rfl) 300 (k'' := pt8_3) (by kernel_rfl) ?_
  refine SOps.pures 2 (i' := 2) (m' := 0) (e' := [(9, .bool (decide ((k : Int) < 0))), (8, .int .i64 (k : Int)), (0, .pointer (some ⟨q, 0, none⟩)), (2, .pointer (some ⟨bx1, 0, none⟩)), (4, .int .i64 (k : Int))]) (by intro u; kernel_rfl) ?_
  refine SOps.nil (.inl rfl) ?_
  refine At.pick [0, 2, 4, 9] (e' := [(0, .pointer (some ⟨q, 0, none⟩)), (2, .pointer (some ⟨bx1, 0, none⟩)), (4, .int .i64 (k : Int)), (9, .bool (decide ((k : Int) < 0)))]) (by kernel_rfl) ?_
  refine At.split (fun zq => [(0, .pointer (some ⟨q, 0, none⟩)), (2, .pointer (some ⟨bx1, 0, none⟩)), (4, .int .i64 (k : Int)), (9, .bool zq)]) (decide ((k : Int) < 0)) (fun hx2 => ?_) (fun hx2 => ?_)
  ·have hx2 : (k : Int) < 0 := by simpa using hx2
   exact absurd hx2 (by omega)
  ·have hx2 : (k : Int) ≥ 0 := by simpa using hx2
   refine At.cond 300 false (c := .tmp 9) (k1 := pt8_4) (k2 := pt8_5) (by kernel_rfl) (by intro u; kernel_rfl) (fun h => by cases h) (fun _ => ?_)
   refine At.pick [0, 2, 4] (e' := [(0, .pointer (some ⟨q, 0, none⟩)), (2, .pointer (some ⟨bx1, 0, none⟩)), (4, .int .i64 (k : Int))]) (by kernel_rfl) ?_
   have hgk := hg.2 k hlt
   refine At.conseq (fun F w ho => QuC.open_ ho) (fun x => ?_)
   obtain ⟨S, cap⟩ := x
   refine At.region (ops := opt8_5) (m := 9) (k' := kt8_5) (by kernel_rfl) 300 (k'' := pt8_7) (by kernel_rfl) ?_
   refine SOps.pures 3 (i' := 3) (m' := 6) (e' := [(13, .pointer (some ⟨q, 0, none⟩)), (12, .pointer (some ⟨q, 0, none⟩)), (11, .pointer (some ⟨q, 0, none⟩)), (0, .pointer (some ⟨q, 0, none⟩)), (2, .pointer (some ⟨bx1, 0, none⟩)), (4, .int .i64 (k : Int))]) (by intro u; kernel_rfl) ?_
   refine SOps.v (Val.ld1 0 14 26 q 0 (.slice S l.length cap) rfl (by intro u; kernel_rfl) (by kernel_rfl) (Rd.cells rfl)) ?_
   refine SOps.pures 1 (i' := 5) (m' := 4) (e' := [(15, .int .i64 (k : Int)), (14, .slice S l.length cap), (13, .pointer (some ⟨q, 0, none⟩)), (12, .pointer (some ⟨q, 0, none⟩)), (11, .pointer (some ⟨q, 0, none⟩)), (0, .pointer (some ⟨q, 0, none⟩)), (2, .pointer (some ⟨bx1, 0, none⟩)), (4, .int .i64 (k : Int))]) (by intro u; kernel_rfl) ?_
   refine SOps.learn (fun F w ho => Grow.some (j := 1) ho rfl) (fun hS => ?_)
   refine SOps.v (Val.pv 16 (vN (Instr.indexAt 26 (.slice S l.length cap) (.int .i64 (k : Int)))) (.pointer (some ⟨(blk S), k * 3, none⟩)) (by intro u; kernel_rfl) (pv_indexO (el := 31) (sz := 3) (by kernel_rfl) (by kernel_rfl) (by omega) (by omega) (hS.1 (by omega)) (by omega))) ?_
   refine SOps.v (Val.ldN 1 17 31 (blk S) (k * 3) 3 [.int .i64 ((l.getD k s0).no), .int .i64 ((l.getD k s0).timer), .int .i64 ((l.getD k s0).over)] rfl (by intro u; kernel_rfl) (by kernel_rfl) (by kernel_rfl) rfl ⟨(Rd.grow (flat_get encG 3 (fun _ => rfl) l k 0 (l.getD k s0) _ (getD_some (by omega)) rfl)), (Rd.grow (flat_get encG 3 (fun _ => rfl) l k 1 (l.getD k s0) _ (getD_some (by omega)) rfl)), (Rd.grow (flat_get encG 3 (fun _ => rfl) l k 2 (l.getD k s0) _ (getD_some (by omega)) rfl)), trivial⟩) ?_
   refine SOps.o (Op.new 5 31 [.int .i64 0, .int .i64 0, .int .i64 0] (fun b => .pointer (some ⟨b, 0, none⟩)) (by intro u b; kernel_rfl) ?_)
   intro bx3
   refine SOps.o (Op.st 0 31 bx3 0 (.agg #[.int .i64 ((l.getD k s0).no), .int .i64 ((l.getD k s0).timer), .int .i64 ((l.getD k s0).over)]) [.int .i64 ((l.getD k s0).no), .int .i64 ((l.getD k s0).timer), .int .i64 ((l.getD k s0).over)] 3 (B' := Cells bx3 31 [.int .i64 ((l.getD k s0).no), .int .i64 ((l.getD k s0).timer), .int .i64 ((l.getD k s0).over)]) (A' := [Cells bx3 31 [.int .i64 ((l.getD k s0).no), .int .i64 ((l.getD k s0).timer), .int .i64 ((l.getD k s0).over)], Cells q 42 [.slice S l.length cap, .int .u64 (bv.toNat : Int)], Grow S cap 31 3 l.length (l.flatMap encG), Cells bx1 31 [.int .i64 0, .int .i64 0, .int .i64 0]]) rfl (by intro u; kernel_rfl) rfl (by kernel_rfl) rfl rfl (Wr.cells rfl rfl) rfl ?_)
   refine SOps.nil (.inl rfl) ?_
   refine At.pick [0, 2, 4, 5] (e' := [(0, .pointer (some ⟨q, 0, none⟩)), (2, .pointer (some ⟨bx1, 0, none⟩)), (4, .int .i64 (k : Int)), (5, .pointer (some ⟨bx3, 0, none⟩))]) (by kernel_rfl) ?_
   refine At.region (ops := opt8_7) (m := 12) (k' := kt8_6) (by kernel_rfl) 300 (k'' := pt8_8) (by kernel_rfl) ?_
   refine SOps.pures 4 (i' := 4) (m' := 8) (e' := [(21, .pointer (some ⟨q, 0, none⟩)), (20, .pointer (some ⟨q, 0, none⟩)), (19, .pointer (some ⟨q, 0, none⟩)), (18, .pointer (some ⟨q, 0, none⟩)), (0, .pointer (some ⟨q, 0, none⟩)), (2, .pointer (some ⟨bx1, 0, none⟩)), (4, .int .i64 (k : Int)), (5, .pointer (some ⟨bx3, 0, none⟩))]) (by intro u; kernel_rfl) ?_
   refine SOps.v (Val.ld1 1 22 26 q 0 (.slice S l.length cap) rfl (by intro u; kernel_rfl) (by kernel_rfl) (Rd.cells rfl)) ?_
   refine SOps.pures 2 (i' := 7) (m' := 5) (e' := [(24, .int .i64 (k : Int)), (23, .int .i64 (k : Int)), (22, .slice S l.length cap), (21, .pointer (some ⟨q, 0, none⟩)), (20, .pointer (some ⟨q, 0, none⟩)), (19, .pointer (some ⟨q, 0, none⟩)), (18, .pointer (some ⟨q, 0, none⟩)), (0, .pointer (some ⟨q, 0, none⟩)), (2, .pointer (some ⟨bx1, 0, none⟩)), (4, .int .i64 (k : Int)), (5, .pointer (some ⟨bx3, 0, none⟩))]) (by intro u; kernel_rfl) ?_
   refine SOps.v (Val.pe 25 (.int .i64 (IntKind.i64.wrap ((k : Int) + 1))) (.int .i64 ((k + 1 : Nat) : Int)) (by intro u; kernel_rfl) (i64_in (by omega) (by omega) (by omega))) ?_
   refine SOps.o (Op.callS 26 17 #[.slice S l.length cap, .int .i64 (k : Int), .int .i64 ((k + 1 : Nat) : Int)] (.slice S (l.length - 1) cap) [2] (B := [Grow S cap 31 3 l.length (l.flatMap encG)]) (D := [Cells bx3 31 [.int .i64 ((l.getD k s0).no), .int .i64 ((l.getD k s0).timer), .int .i64 ((l.getD k s0).over)], Cells q 42 [.slice S l.length cap, .int .u64 (bv.toNat : Int)], Cells bx1 31 [.int .i64 0, .int .i64 0, .int .i64 0]]) (by intro u; kernel_rfl) (deleteG S l.length cap l rfl (by omega) k (by omega)) (by first | exact .inr rfl | exact .inl rfl) (by kernel_rfl) ?_)
   refine SOps.pures 2 (i' := 11) (m' := 1) (e' := [(28, .pointer (some ⟨q, 0, none⟩)), (27, .pointer (some ⟨q, 0, none⟩)), (26, .slice S (l.length - 1) cap), (25, .int .i64 ((k + 1 : Nat) : Int)), (24, .int .i64 (k : Int)), (23, .int .i64 (k : Int)), (22, .slice S l.length cap), (21, .pointer (some ⟨q, 0, none⟩)), (20, .pointer (some ⟨q, 0, none⟩)), (19, .pointer (some ⟨q, 0, none⟩)), (18, .pointer (some ⟨q, 0, none⟩)), (0, .pointer (some ⟨q, 0, none⟩)), (2, .pointer (some ⟨bx1, 0, none⟩)), (4, .int .i64 (k : Int)), (5, .pointer (some ⟨bx3, 0, none⟩))]) (by intro u; kernel_rfl) ?_
   refine SOps.o (Op.st 2 26 q 0 (.slice S (l.length - 1) cap) [.slice S (l.length - 1) cap] 1 (B' := Cells q 42 [.slice S (l.length - 1) cap, .int .u64 (bv.toNat : Int)]) (A' := [Grow S cap 31 3 (l.length - 1) (((l).eraseIdx k).flatMap encG), Cells bx3 31 [.int .i64 ((l.getD k s0).no), .int .i64 ((l.getD k s0).timer), .int .i64 ((l.getD k s0).over)], Cells q 42 [.slice S (l.length - 1) cap, .int .u64 (bv.toNat : Int)], Cells bx1 31 [.int .i64 0, .int .i64 0, .int .i64 0]]) rfl (by intro u; kernel_rfl) rfl (by kernel_rfl) rfl rfl (Wr.cells rfl rfl) rfl ?_)
   refine SOps.nil (.inl rfl) ?_
   refine At.pick [2, 5] (e' := [(2, .pointer (some ⟨bx1, 0, none⟩)), (5, .pointer (some ⟨bx3, 0, none⟩))]) (by kernel_rfl) ?_
   refine At.region (ops := opt8_8) (m := 3) (k' := kt8_7) (by kernel_rfl) 300 (k'' := pt8_9) (by kernel_rfl) ?_
   refine SOps.v (Val.ldN 1 29 31 bx3 0 3 [.int .i64 ((l.getD k s0).no), .int .i64 ((l.getD k s0).timer), .int .i64 ((l.getD k s0).over)] rfl (by intro u; kernel_rfl) (by kernel_rfl) (by kernel_rfl) rfl ⟨(Rd.cells rfl), (Rd.cells rfl), (Rd.cells rfl), trivial⟩) ?_
   refine SOps.o (Op.st 3 31 bx1 0 (.agg #[.int .i64 ((l.getD k s0).no), .int .i64 ((l.getD k s0).timer), .int .i64 ((l.getD k s0).over)]) [.int .i64 ((l.getD k s0).no), .int .i64 ((l.getD k s0).timer), .int .i64 ((l.getD k s0).over)] 3 (B' := Cells bx1 31 [.int .i64 ((l.getD k s0).no), .int .i64 ((l.getD k s0).timer), .int .i64 ((l.getD k s0).over)]) (A' := [Grow S cap 31 3 (l.length - 1) (((l).eraseIdx k).flatMap encG), Cells bx3 31 [.int .i64 ((l.getD k s0).no), .int .i64 ((l.getD k s0).timer), .int .i64 ((l.getD k s0).over)], Cells q 42 [.slice S (l.length - 1) cap, .int .u64 (bv.toNat : Int)], Cells bx1 31 [.int .i64 ((l.getD k s0).no), .int .i64 ((l.getD k s0).timer), .int .i64 ((l.getD k s0).over)]]) rfl (by intro u; kernel_rfl) rfl (by kernel_rfl) rfl rfl (Wr.cells rfl rfl) rfl ?_)
   refine SOps.pures 1 (i' := 3) (m' := 0) (e' := [(3, .bool true), (29, .agg #[.int .i64 ((l.getD k s0).no), .int .i64 ((l.getD k s0).timer), .int .i64 ((l.getD k s0).over)]), (2, .pointer (some ⟨bx1, 0, none⟩)), (5, .pointer (some ⟨bx3, 0, none⟩))]) (by intro u; kernel_rfl) ?_
   refine SOps.nil (.inl rfl) ?_
   refine At.pick [2, 3] (e' := [(2, .pointer (some ⟨bx1, 0, none⟩)), (3, .bool true)]) (by kernel_rfl) ?_
   refine At.retCT 3 (fn := Try.f8) (v := .tuple #[.agg #[.int .i64 ((l.getD k s0).no), .int .i64 ((l.getD k s0).timer), .int .i64 ((l.getD k s0).over)], .bool true]) (a := 2) (ty := 31) (b := bx1) (o := 0) (n := 3) (t := 3) (u := .bool true) (vs := [.int .i64 ((l.getD k s0).no), .int .i64 ((l.getD k s0).timer), .int .i64 ((l.getD k s0).over)]) (by kernel_rfl) Try.func8 (by kernel_rfl) (by kernel_rfl) (by kernel_rfl) rfl (by kernel_rfl) (by kernel_rfl) rfl ⟨(Rd.cells rfl), (Rd.cells rfl), (Rd.cells rfl), trivial⟩ rfl (fun F w ho => ?_)
   have e1 : takeS l bv = l.getD k s0 := by unfold takeS; rw [hO]
   have e2 : takeL l bv = l.eraseIdx k := by unfold takeL; rw [hO]
   have ho2 := QuC.close (l := l.eraseIdx k) (bv := bv) (by rw [List.length_eraseIdx, if_pos hlt]) [2, 0] rfl ho
   rw [e1, e2]
   exact shutV rfl [0] rfl ho2
noncomputable def bd9 : Code := (Try.f9.body).getD .skip
noncomputable def kt9_0 : List Item := .code (pick [1] bd9) :: []
noncomputable def pt9_0 : List Item := .code (pick [0] bd9) :: kt9_0
noncomputable def opt9_0 : Array Oper := opsOf (pick [0] bd9)
noncomputable def kt9_1 : List Item := .code (pick [1, 1] bd9) :: []
noncomputable def kt9_2 : List Item := .code (pick [1, 0, 1] bd9) :: kt9_1
noncomputable def pt9_1 : List Item := .code (pick [1, 0, 0] bd9) :: kt9_2
noncomputable def opt9_1 : Array Oper := opsOf (pick [1, 0, 0] bd9)
noncomputable def pt9_2 : List Item := .code (pick [1, 0, 1] bd9) :: kt9_1
noncomputable def kt9_3 : List Item := .code (pick [1, 0, 1, 0, 1] bd9) :: kt9_1
noncomputable def pt9_3 : List Item := .code (pick [1, 0, 1, 0, 0] bd9) :: kt9_3
noncomputable def opt9_3 : Array Oper := opsOf (pick [1, 0, 1, 0, 0] bd9)
noncomputable def kt9_4 : List Item := .code (pick [1, 1, 1] bd9) :: []
noncomputable def pt9_4 : List Item := .code (pick [1, 1, 0] bd9) :: kt9_4
noncomputable def opt9_4 : Array Oper := opsOf (pick [1, 1, 0] bd9)
noncomputable def pt9_5 : List Item := .code (pick [1, 0, 1, 0, 1] bd9) :: kt9_1
noncomputable def kt9_5 : List Item := .code (pick [1, 1, 1, 1] bd9) :: []
noncomputable def pt9_6 : List Item := .code (pick [1, 1, 1, 0] bd9) :: kt9_5
noncomputable def opt9_6 : Array Oper := opsOf (pick [1, 1, 1, 0] bd9)
noncomputable def kt9_6 : List Item := .code (pick [1, 1, 1, 1, 1] bd9) :: []
noncomputable def pt9_7 : List Item := .code (pick [1, 1, 1, 1, 0] bd9) :: kt9_6
noncomputable def opt9_7 : Array Oper := opsOf (pick [1, 1, 1, 1, 0] bd9)
noncomputable def kt9_7 : List Item := .code (pick [1, 1, 1, 1, 1, 1] bd9) :: []
noncomputable def kt9_8 : List Item := .code (pick [1, 1, 1, 1, 1, 0, 1] bd9) :: kt9_7
noncomputable def pt9_8 : List Item := .code (pick [1, 1, 1, 1, 1, 0, 0] bd9) :: kt9_8
noncomputable def opt9_8 : Array Oper := opsOf (pick [1, 1, 1, 1, 1, 0, 0] bd9)
noncomputable def pt9_9 : List Item := .code (pick [1, 1, 1, 1, 1, 0, 1] bd9) :: kt9_7
noncomputable def pt9_10 : List Item := .code (pick [1, 1, 1, 1, 1, 0, 1, 0] bd9) :: kt9_7
noncomputable def opt9_10 : Array Oper := opsOf (pick [1, 1, 1, 1, 1, 0, 1, 0] bd9)
noncomputable def kt9_9 : List Item := .code (pick [1, 1, 1, 1, 1, 1, 1] bd9) :: []
noncomputable def pt9_11 : List Item := .code (pick [1, 1, 1, 1, 1, 1, 0] bd9) :: kt9_9
noncomputable def opt9_11 : Array Oper := opsOf (pick [1, 1, 1, 1, 1, 1, 0] bd9)
noncomputable def pt9_12 : List Item := .code (pick [1, 1, 1, 1, 1, 1, 1] bd9) :: []
theorem blockM (q : Nat) (l : List Sig) (bv : BitVec 64) (hg : GoodG l) (no : Int) (yes : Bool) : Ctr Try.prog 9 #[.pointer (some ⟨q, 0, none⟩), .int .i64 no, .bool yes] [QuC q l bv] (fun v' => star (fact (v' = .bool (blockB bv no)) :: [QuC q l (blockW bv no yes)])) false := by
 refine spec_of_at (fn := Try.f9) (c := bd9) (args := [.pointer (some ⟨q, 0, none⟩), .int .i64 no, .bool yes]) (n := 44) (e := [(0, .pointer (some ⟨q, 0, none⟩)), (1, .int .i64 no), (2, .bool yes)]) (k := pt9_0) Try.func9 (by kernel_rfl) (by kernel_rfl) (by kernel_rfl) (by kernel_rfl) 300 (by kernel_rfl) ?_
 have hlen := hg.1
 refine At.region (ops := opt9_0) (m := 1) (k' := kt9_0) (by kernel_rfl) 300 (k'' := pt9_1) (by kernel_rfl) ?_
 refine SOps.pures 1 (i' := 1) (m' := 0) (e' := [(6, .bool false), (0, .pointer (some ⟨q, 0, none⟩)), (1, .int .i64 no), (2, .bool yes)]) (by intro u; kernel_rfl) ?_
 refine SOps.nil (.inl rfl) ?_
 refine At.pick [0, 1, 2] (e' := [(0, .pointer (some ⟨q, 0, none⟩)), (1, .int .i64 no), (2, .bool yes)]) (by kernel_rfl) ?_
 refine At.region (ops := opt9_1) (m := 7) (k' := kt9_2) (by kernel_rfl) 300 (k'' := pt9_2) (by kernel_rfl) ?_
 refine SOps.pures 4 (i' := 4) (m' := 3) (e' := [(12, .int .i64 no), (11, .bool false), (10, .bool false), (9, .pointer (some ⟨q, 0, none⟩)), (0, .pointer (some ⟨q, 0, none⟩)), (1, .int .i64 no), (2, .bool yes)]) (by intro u; kernel_rfl) ?_
 refine SOps.o (Op.callS 13 13 #[.int .i64 no] (.bool (rightN no)) [] (B := []) (D := [QuC q l bv]) (by intro u; kernel_rfl) (rightF no) (by first | exact .inr rfl | exact .inl rfl) (by kernel_rfl) ?_)
 refine SOps.pures 2 (i' := 7) (m' := 0) (e' := [(15, .bool (!(rightN no))), (14, .bool (!(rightN no))), (13, .bool (rightN no)), (12, .int .i64 no), (11, .bool false), (10, .bool false), (9, .pointer (some ⟨q, 0, none⟩)), (0, .pointer (some ⟨q, 0, none⟩)), (1, .int .i64 no), (2, .bool yes)]) (by intro u; kernel_rfl) ?_
 refine SOps.nil (.inl rfl) ?_
 refine At.pick [0, 1, 2, 15] (e' := [(0, .pointer (some ⟨q, 0, none⟩)), (1, .int .i64 no), (2, .bool yes), (15, .bool (!(rightN no)))]) (by kernel_rfl) ?_
 refine At.split (fun zq => [(0, .pointer (some ⟨q, 0, none⟩)), (1, .int .i64 no), (2, .bool yes), (15, .bool zq)]) (!(rightN no)) (fun hx1 => ?_) (fun hx1 => ?_)
 ·have hx1 : rightN no = false := by simpa using hx1
  refine At.cond 300 true (c := .tmp 15) (k1 := pt9_3) (k2 := pt9_4) (by kernel_rfl) (by intro u; kernel_rfl) (fun _ => ?_) (fun h => by cases h)
  refine At.pick [] (e' := []) (by kernel_rfl) ?_
  refine At.region (ops := opt9_3) (m := 1) (k' := kt9_3) (by kernel_rfl) 300 (k'' := pt9_5) (by kernel_rfl) ?_
  refine SOps.pures 1 (i' := 1) (m' := 0) (e' := [(6, .bool false)]) (by intro u; kernel_rfl) ?_
  refine SOps.nil (.inl rfl) ?_
  refine At.ret1 (fn := Try.f9) (v := .bool false) (t := 6) (by kernel_rfl) Try.func9 (by kernel_rfl) (by kernel_rfl) (fun F w ho => ?_)
  have e1 : blockB bv no = false := by unfold blockB; simp [*]
  have e2 : blockW bv no yes = bv := by unfold blockW; rw [if_neg (by simp [*])]
  rw [e1, e2]
  exact shutV rfl [0] rfl ho
 ·have hx1 : rightN no = true := by simpa using hx1
  have hx1r := of_decide_eq_true hx1
  refine At.cond 300 false (c := .tmp 15) (k1 := pt9_3) (k2 := pt9_4) (by kernel_rfl) (by intro u; kernel_rfl) (fun h => by cases h) (fun _ => ?_)
  refine At.pick [0, 1, 2] (e' := [(0, .pointer (some ⟨q, 0, none⟩)), (1, .int .i64 no), (2, .bool yes)]) (by kernel_rfl) ?_
  refine At.conseq (fun F w ho => QuC.open_ ho) (fun x => ?_)
  obtain ⟨S, cap⟩ := x
  refine At.region (ops := opt9_4) (m := 4) (k' := kt9_4) (by kernel_rfl) 300 (k'' := pt9_6) (by kernel_rfl) ?_
  refine SOps.pures 1 (i' := 1) (m' := 3) (e' := [(16, .int .i64 no), (0, .pointer (some ⟨q, 0, none⟩)), (1, .int .i64 no), (2, .bool yes)]) (by intro u; kernel_rfl) ?_
  refine SOps.v (Val.pe 17 (.int .u64 (IntKind.u64.wrap no)) (.int .u64 no) (by intro u; kernel_rfl) (u64_in rfl (by omega) (by omega))) ?_
  refine SOps.v (Val.pv 18 (vN (Op.shift .shl .u64 1 .u64 no)) (.int .u64 ((bitW no).toNat : Int)) (by intro u; kernel_rfl) (pv_bit (by omega) (by omega))) ?_
  refine SOps.pures 1 (i' := 4) (m' := 0) (e' := [(7, .int .u64 ((bitW no).toNat : Int)), (18, .int .u64 ((bitW no).toNat : Int)), (17, .int .u64 no), (16, .int .i64 no), (0, .pointer (some ⟨q, 0, none⟩)), (1, .int .i64 no), (2, .bool yes)]) (by intro u; kernel_rfl) ?_
  refine SOps.nil (.inl rfl) ?_
  refine At.pick [0, 2, 7] (e' := [(0, .pointer (some ⟨q, 0, none⟩)), (2, .bool yes), (7, .int .u64 ((bitW no).toNat : Int))]) (by kernel_rfl) ?_
  refine At.region (ops := opt9_6) (m := 8) (k' := kt9_5) (by kernel_rfl) 300 (k'' := pt9_7) (by kernel_rfl) ?_
  refine SOps.pures 3 (i' := 3) (m' := 5) (e' := [(21, .pointer (some ⟨q, 1, none⟩)), (20, .pointer (some ⟨q, 0, none⟩)), (19, .pointer (some ⟨q, 0, none⟩)), (0, .pointer (some ⟨q, 0, none⟩)), (2, .bool yes), (7, .int .u64 ((bitW no).toNat : Int))]) (by intro u; kernel_rfl) ?_
  refine SOps.v (Val.ld1 0 22 40 q 1 (.int .u64 (bv.toNat : Int)) rfl (by intro u; kernel_rfl) (by kernel_rfl) (Rd.cells rfl)) ?_
  refine SOps.pures 1 (i' := 5) (m' := 3) (e' := [(23, .int .u64 ((bitW no).toNat : Int)), (22, .int .u64 (bv.toNat : Int)), (21, .pointer (some ⟨q, 1, none⟩)), (20, .pointer (some ⟨q, 0, none⟩)), (19, .pointer (some ⟨q, 0, none⟩)), (0, .pointer (some ⟨q, 0, none⟩)), (2, .bool yes), (7, .int .u64 ((bitW no).toNat : Int))]) (by intro u; kernel_rfl) ?_
  refine SOps.v (Val.pv 24 (vN (Op.intBits .and .u64 ((bv).toNat : Int) ((bitW no).toNat : Int))) (.int .u64 ((bv &&& bitW no).toNat : Int)) (by intro u; kernel_rfl) (pv_bvand _ _)) ?_
  refine SOps.v (Val.pe 25 (.bool (((bv &&& bitW no).toNat : Int) != 0)) (.bool (!openB bv no)) (by intro u; kernel_rfl) (congrArg Value.bool (was_open (by omega) (by omega)))) ?_
  refine SOps.pures 1 (i' := 8) (m' := 0) (e' := [(8, .bool (!openB bv no)), (25, .bool (!openB bv no)), (24, .int .u64 ((bv &&& bitW no).toNat : Int)), (23, .int .u64 ((bitW no).toNat : Int)), (22, .int .u64 (bv.toNat : Int)), (21, .pointer (some ⟨q, 1, none⟩)), (20, .pointer (some ⟨q, 0, none⟩)), (19, .pointer (some ⟨q, 0, none⟩)), (0, .pointer (some ⟨q, 0, none⟩)), (2, .bool yes), (7, .int .u64 ((bitW no).toNat : Int))]) (by intro u; kernel_rfl) ?_
  refine SOps.nil (.inl rfl) ?_
  refine At.pick [0, 2, 7, 8] (e' := [(0, .pointer (some ⟨q, 0, none⟩)), (2, .bool yes), (7, .int .u64 ((bitW no).toNat : Int)), (8, .bool (!openB bv no))]) (by kernel_rfl) ?_
  refine At.region (ops := opt9_7) (m := 9) (k' := kt9_6) (by kernel_rfl) 300 (k'' := pt9_8) (by kernel_rfl) ?_
  refine SOps.pures 3 (i' := 3) (m' := 6) (e' := [(28, .pointer (some ⟨q, 1, none⟩)), (27, .pointer (some ⟨q, 0, none⟩)), (26, .pointer (some ⟨q, 0, none⟩)), (0, .pointer (some ⟨q, 0, none⟩)), (2, .bool yes), (7, .int .u64 ((bitW no).toNat : Int)), (8, .bool (!openB bv no))]) (by intro u; kernel_rfl) ?_
  refine SOps.v (Val.ld1 0 29 40 q 1 (.int .u64 (bv.toNat : Int)) rfl (by intro u; kernel_rfl) (by kernel_rfl) (Rd.cells rfl)) ?_
  refine SOps.pures 1 (i' := 5) (m' := 4) (e' := [(30, .int .u64 ((bitW no).toNat : Int)), (29, .int .u64 (bv.toNat : Int)), (28, .pointer (some ⟨q, 1, none⟩)), (27, .pointer (some ⟨q, 0, none⟩)), (26, .pointer (some ⟨q, 0, none⟩)), (0, .pointer (some ⟨q, 0, none⟩)), (2, .bool yes), (7, .int .u64 ((bitW no).toNat : Int)), (8, .bool (!openB bv no))]) (by intro u; kernel_rfl) ?_
  refine SOps.v (Val.pv 31 (vN (Op.intBits .andNot .u64 ((bv).toNat : Int) ((bitW no).toNat : Int))) (.int .u64 ((bv &&& ~~~bitW no).toNat : Int)) (by intro u; kernel_rfl) (pv_bvandNot _ _)) ?_
  refine SOps.pures 2 (i' := 8) (m' := 1) (e' := [(33, .pointer (some ⟨q, 1, none⟩)), (32, .pointer (some ⟨q, 0, none⟩)), (31, .int .u64 ((bv &&& ~~~bitW no).toNat : Int)), (30, .int .u64 ((bitW no).toNat : Int)), (29, .int .u64 (bv.toNat : Int)), (28, .pointer (some ⟨q, 1, none⟩)), (27, .pointer (some ⟨q, 0, none⟩)), (26, .pointer (some ⟨q, 0, none⟩)), (0, .pointer (some ⟨q, 0, none⟩)), (2, .bool yes), (7, .int .u64 ((bitW no).toNat : Int)), (8, .bool (!openB bv no))]) (by intro u; kernel_rfl) ?_
  refine SOps.o (Op.st 0 40 q 1 (.int .u64 ((bv &&& ~~~bitW no).toNat : Int)) [.int .u64 ((bv &&& ~~~bitW no).toNat : Int)] 1 (B' := Cells q 42 [.slice S l.length cap, .int .u64 ((bv &&& ~~~bitW no).toNat : Int)]) (A' := [Cells q 42 [.slice S l.length cap, .int .u64 ((bv &&& ~~~bitW no).toNat : Int)], Grow S cap 31 3 l.length (l.flatMap encG)]) rfl (by intro u; kernel_rfl) rfl (by kernel_rfl) rfl rfl (Wr.cells rfl rfl) rfl ?_)
  refine SOps.nil (.inl rfl) ?_
  refine At.pick [0, 2, 7, 8] (e' := [(0, .pointer (some ⟨q, 0, none⟩)), (2, .bool yes), (7, .int .u64 ((bitW no).toNat : Int)), (8, .bool (!openB bv no))]) (by kernel_rfl) ?_
  refine At.region (ops := opt9_8) (m := 1) (k' := kt9_8) (by kernel_rfl) 300 (k'' := pt9_9) (by kernel_rfl) ?_
  refine SOps.pures 1 (i' := 1) (m' := 0) (e' := [(34, .bool yes), (0, .pointer (some ⟨q, 0, none⟩)), (2, .bool yes), (7, .int .u64 ((bitW no).toNat : Int)), (8, .bool (!openB bv no))]) (by intro u; kernel_rfl) ?_
  refine SOps.nil (.inl rfl) ?_
  refine At.pick [0, 7, 8, 34] (e' := [(0, .pointer (some ⟨q, 0, none⟩)), (7, .int .u64 ((bitW no).toNat : Int)), (8, .bool (!openB bv no)), (34, .bool yes)]) (by kernel_rfl) ?_
  refine At.split (fun zq => [(0, .pointer (some ⟨q, 0, none⟩)), (7, .int .u64 ((bitW no).toNat : Int)), (8, .bool (!openB bv no)), (34, .bool zq)]) (yes) (fun hx2 => ?_) (fun hx2 => ?_)
  ·have hx2 : yes = true := by simpa using hx2
   refine At.cond 300 true (c := .tmp 34) (k1 := pt9_10) (k2 := pt9_11) (by kernel_rfl) (by intro u; kernel_rfl) (fun _ => ?_) (fun h => by cases h)
   refine At.pick [0, 7, 8] (e' := [(0, .pointer (some ⟨q, 0, none⟩)), (7, .int .u64 ((bitW no).toNat : Int)), (8, .bool (!openB bv no))]) (by kernel_rfl) ?_
   refine At.region (ops := opt9_10) (m := 9) (k' := kt9_7) (by kernel_rfl) 300 (k'' := pt9_11) (by kernel_rfl) ?_
   refine SOps.pures 3 (i' := 3) (m' := 6) (e' := [(37, .pointer (some ⟨q, 1, none⟩)), (36, .pointer (some ⟨q, 0, none⟩)), (35, .pointer (some ⟨q, 0, none⟩)), (0, .pointer (some ⟨q, 0, none⟩)), (7, .int .u64 ((bitW no).toNat : Int)), (8, .bool (!openB bv no))]) (by intro u; kernel_rfl) ?_
   refine SOps.v (Val.ld1 0 38 40 q 1 (.int .u64 ((bv &&& ~~~bitW no).toNat : Int)) rfl (by intro u; kernel_rfl) (by kernel_rfl) (Rd.cells rfl)) ?_
   refine SOps.pures 1 (i' := 5) (m' := 4) (e' := [(39, .int .u64 ((bitW no).toNat : Int)), (38, .int .u64 ((bv &&& ~~~bitW no).toNat : Int)), (37, .pointer (some ⟨q, 1, none⟩)), (36, .pointer (some ⟨q, 0, none⟩)), (35, .pointer (some ⟨q, 0, none⟩)), (0, .pointer (some ⟨q, 0, none⟩)), (7, .int .u64 ((bitW no).toNat : Int)), (8, .bool (!openB bv no))]) (by intro u; kernel_rfl) ?_
   refine SOps.v (Val.pv 40 (vN (Op.intBits .or .u64 ((bv &&& ~~~bitW no).toNat : Int) ((bitW no).toNat : Int))) (.int .u64 (((bv &&& ~~~bitW no) ||| bitW no).toNat : Int)) (by intro u; kernel_rfl) (pv_bvor _ _)) ?_
   refine SOps.pures 2 (i' := 8) (m' := 1) (e' := [(42, .pointer (some ⟨q, 1, none⟩)), (41, .pointer (some ⟨q, 0, none⟩)), (40, .int .u64 (((bv &&& ~~~bitW no) ||| bitW no).toNat : Int)), (39, .int .u64 ((bitW no).toNat : Int)), (38, .int .u64 ((bv &&& ~~~bitW no).toNat : Int)), (37, .pointer (some ⟨q, 1, none⟩)), (36, .pointer (some ⟨q, 0, none⟩)), (35, .pointer (some ⟨q, 0, none⟩)), (0, .pointer (some ⟨q, 0, none⟩)), (7, .int .u64 ((bitW no).toNat : Int)), (8, .bool (!openB bv no))]) (by intro u; kernel_rfl) ?_
   refine SOps.o (Op.st 0 40 q 1 (.int .u64 (((bv &&& ~~~bitW no) ||| bitW no).toNat : Int)) [.int .u64 (((bv &&& ~~~bitW no) ||| bitW no).toNat : Int)] 1 (B' := Cells q 42 [.slice S l.length cap, .int .u64 (((bv &&& ~~~bitW no) ||| bitW no).toNat : Int)]) (A' := [Cells q 42 [.slice S l.length cap, .int .u64 (((bv &&& ~~~bitW no) ||| bitW no).toNat : Int)], Grow S cap 31 3 l.length (l.flatMap encG)]) rfl (by intro u; kernel_rfl) rfl (by kernel_rfl) rfl rfl (Wr.cells rfl rfl) rfl ?_)
   refine SOps.nil (.inl rfl) ?_
   refine At.pick [8] (e' := [(8, .bool (!openB bv no))]) (by kernel_rfl) ?_
   refine At.region (ops := opt9_11) (m := 2) (k' := kt9_9) (by kernel_rfl) 300 (k'' := pt9_12) (by kernel_rfl) ?_
   refine SOps.pures 2 (i' := 2) (m' := 0) (e' := [(6, .bool (!openB bv no)), (43, .bool (!openB bv no)), (8, .bool (!openB bv no))]) (by intro u; kernel_rfl) ?_
   refine SOps.nil (.inl rfl) ?_
   refine At.pick [6] (e' := [(6, .bool (!openB bv no))]) (by kernel_rfl) ?_
   refine At.ret1 (fn := Try.f9) (v := .bool (!openB bv no)) (t := 6) (by kernel_rfl) Try.func9 (by kernel_rfl) (by kernel_rfl) (fun F w ho => ?_)
   have e1 : blockB bv no = !openB bv no := by unfold blockB; simp [*]
   have e2 : blockW bv no yes = (bv &&& ~~~bitW no) ||| bitW no := by unfold blockW; rw [if_pos (by assumption)]; simp [*]
   have ho2 := QuC.close (l := l) (bv := ((bv &&& ~~~bitW no) ||| bitW no)) rfl [0, 0] rfl ho
   rw [e1, e2]
   exact shutV rfl [0] rfl ho2
  ·have hx2 : yes = false := by simpa using hx2
   refine At.cond 300 false (c := .tmp 34) (k1 := pt9_10) (k2 := pt9_11) (by kernel_rfl) (by intro u; kernel_rfl) (fun h => by cases h) (fun _ => ?_)
   refine At.pick [8] (e' := [(8, .bool (!openB bv no))]) (by kernel_rfl) ?_
   refine At.region (ops := opt9_11) (m := 2) (k' := kt9_9) (by kernel_rfl) 300 (k'' := pt9_12) (by kernel_rfl) ?_
   refine SOps.pures 2 (i' := 2) (m' := 0) (e' := [(6, .bool (!openB bv no)), (43, .bool (!openB bv no)), (8, .bool (!openB bv no))]) (by intro u; kernel_rfl) ?_
   refine SOps.nil (.inl rfl) ?_
   refine At.pick [6] (e' := [(6, .bool (!openB bv no))]) (by kernel_rfl) ?_
   refine At.ret1 (fn := Try.f9) (v := .bool (!openB bv no)) (t := 6) (by kernel_rfl) Try.func9 (by kernel_rfl) (by kernel_rfl) (fun F w ho => ?_)
   have e1 : blockB bv no = !openB bv no := by unfold blockB; simp [*]
   have e2 : blockW bv no yes = bv &&& ~~~bitW no := by unfold blockW; rw [if_pos (by assumption)]; simp [*]
   have ho2 := QuC.close (l := l) (bv := (bv &&& ~~~bitW no)) rfl [0, 0] rfl ho
   rw [e1, e2]
   exact shutV rfl [0] rfl ho2
end Go.Proofs.Sg
