/- Weekly: which ring, when, and between. -/
import Derived.Test.YtiaapecdhcibnaaWkD
namespace Go.Proofs.Wk
open Go Go.Sp Go.Wk
set_option linter.unusedVariables false
set_option linter.unusedSimpArgs false
set_option linter.unnecessarySimpa false
set_option maxRecDepth 100000
noncomputable def bd10 : Code := (Try.f10.body).getD .skip
noncomputable def kt10_0 : List Item := .code (pick [1, 1, 1] bd10) :: []
noncomputable def kt10_1 : List Item := .inBlock 0 :: kt10_0
noncomputable def kt10_2 : List Item := .inLoop (pick [1, 1, 0, 1, 0, 0] bd10) :: kt10_1
noncomputable def kt10_3 : List Item := .code (pick [1, 1, 0, 1, 0, 0, 1] bd10) :: kt10_2
noncomputable def pt10_0 : List Item := .code (pick [1, 1, 0, 1, 0, 0, 0] bd10) :: kt10_3
noncomputable def opt10_0 : Array Oper := opsOf (pick [1, 1, 0, 1, 0, 0, 0] bd10)
noncomputable def kt10_4 : List Item := .code (pick [1, 1, 0, 1, 0, 0, 1, 1] bd10) :: kt10_2
noncomputable def pt10_1 : List Item := .code (pick [1, 1, 0, 1, 0, 0, 1, 0] bd10) :: kt10_4
noncomputable def kt10_5 : List Item := .code (pick [1, 1, 0, 1, 0, 0, 1, 1, 1] bd10) :: kt10_2
noncomputable def kt10_6 : List Item := .inBlock 1 :: kt10_5
noncomputable def kt10_7 : List Item := .code (pick [1, 1, 0, 1, 0, 0, 1, 1, 0, 0, 1] bd10) :: kt10_6
noncomputable def pt10_2 : List Item := .code (pick [1, 1, 0, 1, 0, 0, 1, 1, 0, 0, 0] bd10) :: kt10_7
noncomputable def opt10_2 : Array Oper := opsOf (pick [1, 1, 0, 1, 0, 0, 1, 1, 0, 0, 0] bd10)
noncomputable def kt10_8 : List Item := .code (pick [1, 1, 1, 1] bd10) :: []
noncomputable def pt10_3 : List Item := .code (pick [1, 1, 1, 0] bd10) :: kt10_8
noncomputable def opt10_3 : Array Oper := opsOf (pick [1, 1, 1, 0] bd10)
noncomputable def kt10_9 : List Item := .code (pick [1, 1, 0, 1, 0, 0, 1, 1, 0, 0, 1, 1] bd10) :: kt10_6
noncomputable def pt10_4 : List Item := .code (pick [1, 1, 0, 1, 0, 0, 1, 1, 0, 0, 1, 0] bd10) :: kt10_9
noncomputable def opt10_4 : Array Oper := opsOf (pick [1, 1, 0, 1, 0, 0, 1, 1, 0, 0, 1, 0] bd10)
noncomputable def pt10_5 : List Item := .code (pick [1, 1, 0, 1, 0, 0, 1, 1, 0, 0, 1, 1] bd10) :: kt10_6
noncomputable def pt10_6 : List Item := .code (pick [1, 1, 0, 1, 0, 0, 1, 1, 0, 0, 1, 1, 0] bd10) :: kt10_6
noncomputable def opt10_6 : Array Oper := opsOf (pick [1, 1, 0, 1, 0, 0, 1, 1, 0, 0, 1, 1, 0] bd10)
noncomputable def pt10_7 : List Item := .code (pick [1, 1, 0, 1, 0, 0, 1, 1, 1] bd10) :: kt10_2
noncomputable def opt10_7 : Array Oper := opsOf (pick [1, 1, 0, 1, 0, 0, 1, 1, 1] bd10)
noncomputable def pt10_8 : List Item := .code (pick [1, 1, 1, 1] bd10) :: []
noncomputable def kt10_10 : List Item := .code (pick [1] bd10) :: []
noncomputable def pt10_9 : List Item := .code (pick [0] bd10) :: kt10_10
noncomputable def opt10_9 : Array Oper := opsOf (pick [0] bd10)
noncomputable def kt10_11 : List Item := .code (pick [1, 1] bd10) :: []
noncomputable def pt10_10 : List Item := .code (pick [1, 0] bd10) :: kt10_11
noncomputable def opt10_10 : Array Oper := opsOf (pick [1, 0] bd10)
noncomputable def kt10_12 : List Item := .code (pick [1, 1, 0, 1] bd10) :: kt10_0
noncomputable def pt10_11 : List Item := .code (pick [1, 1, 0, 0] bd10) :: kt10_12
noncomputable def opt10_11 : Array Oper := opsOf (pick [1, 1, 0, 0] bd10)
theorem ringsS_loop (s : Nat) (l : List Alarm) (hg : GoodA l) (m : Int) (S2 : Option Addr) (c2 : Nat) : ∀ (mm k q : Nat) (So : Option Addr) (co : Nat) (acc : List Int), l.length - k < mm → k ≤ l.length → acc = ringsL (l.take k) m → acc.length = q → At ⟨Try.prog, 10, (fun v' => ex fun x : Option Addr × Nat => fact (v' = .slice x.1 (ringsL l m).length x.2) :: fact True :: [Grow x.1 x.2 3 1 (ringsL l m).length (ints (ringsL l m)), SetC s l]), 26, false⟩ pt10_0 [(1, .int .i64 m), (5, .slice So q co), (9, .slice S2 l.length c2), (10, .int .i64 (l.length : Int)), (11, .int .i64 (k : Int))] [Grow So co 3 1 q (ints acc), Grow S2 c2 30 4 l.length (l.flatMap encA), SetC s l] := by
 have hlen := hg.len
 intro mm
 induction mm with
 | zero => intro k q So co acc h; omega
 | succ mm ih =>
  intro k q So co acc hm hk he hql
  have hq : q ≤ k := by rw [← hql, he]; exact ringsL_take l m k
  refine At.region (ops := opt10_0) (m := 1) (k' := kt10_3) (by kernel_rfl) 300 (k'' := pt10_1) (by kernel_rfl) ?_
  refine SOps.pures 1 (i' := 1) (m' := 0) (e' := [(12, .bool (decide ((k : Int) < (l.length : Int)))), (1, .int .i64 m), (5, .slice So q co), (9, .slice S2 l.length c2), (10, .int .i64 (l.length : Int)), (11, .int .i64 (k : Int))]) (by intro u; kernel_rfl) ?_
  refine SOps.nil (.inl rfl) ?_
  refine At.pick [1, 5, 9, 10, 11, 12] (e' := [(1, .int .i64 m), (5, .slice So q co), (9, .slice S2 l.length c2), (10, .int .i64 (l.length : Int)), (11, .int .i64 (k : Int)), (12, .bool (decide ((k : Int) < (l.length : Int))))]) (by kernel_rfl) ?_
  refine At.split (fun zq => [(1, .int .i64 m), (5, .slice So q co), (9, .slice S2 l.length c2), (10, .int .i64 (l.length : Int)), (11, .int .i64 (k : Int)), (12, .bool zq)]) (decide ((k : Int) < (l.length : Int))) (fun hx1 => ?_) (fun hx1 => ?_)
  ·have hx1 : (k : Int) < (l.length : Int) := by simpa using hx1
   refine At.cond 300 true (c := .tmp 12) (k1 := pt10_2) (k2 := pt10_3) (by kernel_rfl) (by intro u; kernel_rfl) (fun _ => ?_) (fun h => by cases h)
   refine At.pick [1, 5, 9, 10, 11] (e' := [(1, .int .i64 m), (5, .slice So q co), (9, .slice S2 l.length c2), (10, .int .i64 (l.length : Int)), (11, .int .i64 (k : Int))]) (by kernel_rfl) ?_
   refine At.region (ops := opt10_2) (m := 4) (k' := kt10_7) (by kernel_rfl) 300 (k'' := pt10_4) (by kernel_rfl) ?_
   refine SOps.learn (fun F w ho => Grow.some (j := 1) ho rfl) (fun hS2 => ?_)
   refine SOps.v (Val.pv 13 (vN (Instr.indexAt 25 (.slice S2 l.length c2) (.int .i64 (k : Int)))) (.pointer (some ⟨(blk S2), k * 4, none⟩)) (by intro u; kernel_rfl) (pv_indexO (el := 30) (sz := 4) (by kernel_rfl) (by kernel_rfl) (by omega) (by omega) (hS2.1 (by omega)) (by omega))) ?_
   refine SOps.v (Val.ldN 1 14 30 (blk S2) (k * 4) 4 [.int .i64 ((l.getD k a0).id), .int .i64 ((l.getD k a0).minute), .int .i64 ((l.getD k a0).days), .bool ((l.getD k a0).off)] rfl (by intro u; kernel_rfl) (by kernel_rfl) (by kernel_rfl) rfl ⟨(Rd.grow (flat_get encA 4 (fun _ => rfl) l k 0 (l.getD k a0) _ (getD_some (by omega)) rfl)), (Rd.grow (flat_get encA 4 (fun _ => rfl) l k 1 (l.getD k a0) _ (getD_some (by omega)) rfl)), (Rd.grow (flat_get encA 4 (fun _ => rfl) l k 2 (l.getD k a0) _ (getD_some (by omega)) rfl)), (Rd.grow (flat_get encA 4 (fun _ => rfl) l k 3 (l.getD k a0) _ (getD_some (by omega)) rfl)), trivial⟩) ?_
   refine SOps.o (Op.new 7 30 [.int .i64 0, .int .i64 0, .int .i64 0, .bool false] (fun b => .pointer (some ⟨b, 0, none⟩)) (by intro u b; kernel_rfl) ?_)
   intro bx2
   refine SOps.o (Op.st 0 30 bx2 0 (.agg #[.int .i64 ((l.getD k a0).id), .int .i64 ((l.getD k a0).minute), .int .i64 ((l.getD k a0).days), .bool ((l.getD k a0).off)]) [.int .i64 ((l.getD k a0).id), .int .i64 ((l.getD k a0).minute), .int .i64 ((l.getD k a0).days), .bool ((l.getD k a0).off)] 4 (B' := Cells bx2 30 [.int .i64 ((l.getD k a0).id), .int .i64 ((l.getD k a0).minute), .int .i64 ((l.getD k a0).days), .bool ((l.getD k a0).off)]) (A' := [Cells bx2 30 [.int .i64 ((l.getD k a0).id), .int .i64 ((l.getD k a0).minute), .int .i64 ((l.getD k a0).days), .bool ((l.getD k a0).off)], Grow So co 3 1 q (ints acc), Grow S2 c2 30 4 l.length (l.flatMap encA), SetC s l]) rfl (by intro u; kernel_rfl) rfl (by kernel_rfl) rfl rfl (Wr.cells rfl rfl) rfl ?_)
   refine SOps.nil (.inl rfl) ?_
   refine At.pick [1, 5, 7, 9, 10, 11] (e' := [(1, .int .i64 m), (5, .slice So q co), (7, .pointer (some ⟨bx2, 0, none⟩)), (9, .slice S2 l.length c2), (10, .int .i64 (l.length : Int)), (11, .int .i64 (k : Int))]) (by kernel_rfl) ?_
   have hmm : 0 ≤ m % 10080 ∧ m % 10080 < 10080 := by omega
   have hd4 := days_ok hg (k := k) (by omega)
   have hdd : 0 ≤ (l.getD k a0).days ∧ (l.getD k a0).days < 128 := by omega
   refine At.regionQ (ops := opt10_4) (m := 4) (k' := kt10_9) (by kernel_rfl) 300 (k'' := pt10_5) (by kernel_rfl) (by kernel_rfl) (by kernel_rfl) ?_
   refine SOps.v (Val.ldN 0 15 30 bx2 0 4 [.int .i64 ((l.getD k a0).id), .int .i64 ((l.getD k a0).minute), .int .i64 ((l.getD k a0).days), .bool ((l.getD k a0).off)] rfl (by intro u; kernel_rfl) (by kernel_rfl) (by kernel_rfl) rfl ⟨(Rd.cells rfl), (Rd.cells rfl), (Rd.cells rfl), (Rd.cells rfl), trivial⟩) ?_
   refine SOps.pures 1 (i' := 2) (m' := 2) (e' := [(16, .int .i64 m), (15, .agg #[.int .i64 ((l.getD k a0).id), .int .i64 ((l.getD k a0).minute), .int .i64 ((l.getD k a0).days), .bool ((l.getD k a0).off)]), (1, .int .i64 m), (5, .slice So q co), (7, .pointer (some ⟨bx2, 0, none⟩)), (9, .slice S2 l.length c2), (10, .int .i64 (l.length : Int)), (11, .int .i64 (k : Int))]) (by intro u; kernel_rfl) ?_
   refine SOps.callQ 17 20 #[.int .i64 m] (.int .i64 (m % 10080)) [] (B := []) (D := [Cells bx2 30 [.int .i64 ((l.getD k a0).id), .int .i64 ((l.getD k a0).minute), .int .i64 ((l.getD k a0).days), .bool ((l.getD k a0).off)], Grow So co 3 1 q (ints acc), Grow S2 c2 30 4 l.length (l.flatMap encA), SetC s l]) (by intro u; kernel_rfl) (within m) (by kernel_rfl) ?_
   refine SOps.callQ 18 19 #[.agg #[.int .i64 ((l.getD k a0).id), .int .i64 ((l.getD k a0).minute), .int .i64 ((l.getD k a0).days), .bool ((l.getD k a0).off)], .int .i64 (m % 10080)] (.bool (ringsA (l.getD k a0) (m % 10080))) [] (B := []) (D := [Cells bx2 30 [.int .i64 ((l.getD k a0).id), .int .i64 ((l.getD k a0).minute), .int .i64 ((l.getD k a0).days), .bool ((l.getD k a0).off)], Grow So co 3 1 q (ints acc), Grow S2 c2 30 4 l.length (l.flatMap encA), SetC s l]) (by intro u; kernel_rfl) (ringsF (l.getD k a0) (m % 10080) hmm hdd) (by kernel_rfl) ?_
   refine SOps.nil (.inr (by kernel_rfl)) ?_
   refine At.pick [1, 5, 7, 9, 10, 11, 18] (e' := [(1, .int .i64 m), (5, .slice So q co), (7, .pointer (some ⟨bx2, 0, none⟩)), (9, .slice S2 l.length c2), (10, .int .i64 (l.length : Int)), (11, .int .i64 (k : Int)), (18, .bool (ringsA (l.getD k a0) (m % 10080)))]) (by kernel_rfl) ?_
   refine At.split (fun zq => [(1, .int .i64 m), (5, .slice So q co), (7, .pointer (some ⟨bx2, 0, none⟩)), (9, .slice S2 l.length c2), (10, .int .i64 (l.length : Int)), (11, .int .i64 (k : Int)), (18, .bool zq)]) ((ringsA (l.getD k a0) (m % 10080))) (fun hx3 => ?_) (fun hx3 => ?_)
   ·have hx3 : (ringsA (l.getD k a0) (m % 10080)) = true := by simpa using hx3
    refine At.cond 300 true (c := .tmp 18) (k1 := pt10_6) (k2 := pt10_7) (by kernel_rfl) (by intro u; kernel_rfl) (fun _ => ?_) (fun h => by cases h)
    refine At.pick [1, 5, 7, 9, 10, 11] (e' := [(1, .int .i64 m), (5, .slice So q co), (7, .pointer (some ⟨bx2, 0, none⟩)), (9, .slice S2 l.length c2), (10, .int .i64 (l.length : Int)), (11, .int .i64 (k : Int))]) (by kernel_rfl) ?_
    refine At.region (ops := opt10_6) (m := 6) (k' := kt10_6) (by kernel_rfl) 300 (k'' := pt10_7) (by kernel_rfl) ?_
    refine SOps.pures 2 (i' := 2) (m' := 4) (e' := [(20, .pointer (some ⟨bx2, 0, none⟩)), (19, .slice So q co), (1, .int .i64 m), (5, .slice So q co), (7, .pointer (some ⟨bx2, 0, none⟩)), (9, .slice S2 l.length c2), (10, .int .i64 (l.length : Int)), (11, .int .i64 (k : Int))]) (by intro u; kernel_rfl) ?_
    refine SOps.v (Val.ld1 0 21 3 bx2 0 (.int .i64 ((l.getD k a0).id)) rfl (by intro u; kernel_rfl) (by kernel_rfl) (Rd.cells rfl)) ?_
    refine SOps.o (Op.new 22 3 [.int .i64 ((l.getD k a0).id)] (fun b => .slice (some ⟨b, 0, none⟩) 1 1) (by intro u b; kernel_rfl) ?_)
    intro bx4
    refine SOps.o (Op.appS 2 0 23 (sz := 1) (bytes := 8) (ty := 32) el_32 (ints ([(l.getD k a0).id])) (ints (acc ++ [(l.getD k a0).id])) (n := q) (q := 1) (c := 1) (r := (q + 1)) (by omega) rfl rfl (by intro u; kernel_rfl) (by rw [ints_len] <;> first | omega | (simp only [List.length_cons, List.length_nil]; done) | (simp only [List.length_append, List.length_take, List.length_drop, List.length_cons, List.length_nil, List.length_set]; omega)) SrcOf.cells (by simp [ints, oneC]) (by unfold maxLen; omega) (by omega) (by simp [ints]) ?_)
    intro Sx5 cx6
    refine SOps.pures 1 (i' := 6) (m' := 0) (e' := [(5, .slice Sx5 (q + 1) cx6), (23, .slice Sx5 (q + 1) cx6), (22, .slice (some ⟨bx4, 0, none⟩) 1 1), (21, .int .i64 ((l.getD k a0).id)), (20, .pointer (some ⟨bx2, 0, none⟩)), (19, .slice So q co), (1, .int .i64 m), (5, .slice So q co), (7, .pointer (some ⟨bx2, 0, none⟩)), (9, .slice S2 l.length c2), (10, .int .i64 (l.length : Int)), (11, .int .i64 (k : Int))]) (by intro u; kernel_rfl) ?_
    refine SOps.nil (.inl rfl) ?_
    refine At.pick [1, 5, 9, 10, 11] (e' := [(1, .int .i64 m), (5, .slice Sx5 (q + 1) cx6), (9, .slice S2 l.length c2), (10, .int .i64 (l.length : Int)), (11, .int .i64 (k : Int))]) (by kernel_rfl) ?_
    refine At.region (ops := opt10_7) (m := 2) (k' := kt10_2) (by kernel_rfl) 300 (k'' := pt10_0) (by kernel_rfl) ?_
    refine SOps.v (Val.pe 24 (.int .i64 (IntKind.i64.wrap ((k : Int) + 1))) (.int .i64 ((k + 1 : Nat) : Int)) (by intro u; kernel_rfl) (i64_in (by omega) (by omega) (by omega))) ?_
    refine SOps.pures 1 (i' := 2) (m' := 0) (e' := [(11, .int .i64 ((k + 1 : Nat) : Int)), (24, .int .i64 ((k + 1 : Nat) : Int)), (1, .int .i64 m), (5, .slice Sx5 (q + 1) cx6), (9, .slice S2 l.length c2), (10, .int .i64 (l.length : Int)), (11, .int .i64 (k : Int))]) (by intro u; kernel_rfl) ?_
    refine SOps.nil (.inl rfl) ?_
    refine At.pick [1, 5, 9, 10, 11] (e' := [(1, .int .i64 m), (5, .slice Sx5 (q + 1) cx6), (9, .slice S2 l.length c2), (10, .int .i64 (l.length : Int)), (11, .int .i64 ((k + 1 : Nat) : Int))]) (by kernel_rfl) ?_
    refine At.keep [2, 2, 2] (B := [Grow Sx5 cx6 3 1 (q + 1) (ints (acc ++ [(l.getD k a0).id])), Grow S2 c2 30 4 l.length (l.flatMap encA), SetC s l]) (D := [Cells bx4 3 [.int .i64 ((l.getD k a0).id)], Cells bx2 30 [.int .i64 ((l.getD k a0).id), .int .i64 ((l.getD k a0).minute), .int .i64 ((l.getD k a0).days), .bool ((l.getD k a0).off)]]) rfl ?_
    exact ih (k + 1) _ Sx5 cx6 _ (by omega) (by omega) (by rw [he]; exact ringsL_yes (by omega) (by assumption)) (by simp; omega)
   ·have hx3 : (ringsA (l.getD k a0) (m % 10080)) = false := by simpa using hx3
    refine At.cond 300 false (c := .tmp 18) (k1 := pt10_6) (k2 := pt10_7) (by kernel_rfl) (by intro u; kernel_rfl) (fun h => by cases h) (fun _ => ?_)
    refine At.pick [1, 5, 9, 10, 11] (e' := [(1, .int .i64 m), (5, .slice So q co), (9, .slice S2 l.length c2), (10, .int .i64 (l.length : Int)), (11, .int .i64 (k : Int))]) (by kernel_rfl) ?_
    refine At.region (ops := opt10_7) (m := 2) (k' := kt10_2) (by kernel_rfl) 300 (k'' := pt10_0) (by kernel_rfl) ?_
    refine SOps.v (Val.pe 24 (.int .i64 (IntKind.i64.wrap ((k : Int) + 1))) (.int .i64 ((k + 1 : Nat) : Int)) (by intro u; kernel_rfl) (i64_in (by omega) (by omega) (by omega))) ?_
    refine SOps.pures 1 (i' := 2) (m' := 0) (e' := [(11, .int .i64 ((k + 1 : Nat) : Int)), (24, .int .i64 ((k + 1 : Nat) : Int)), (1, .int .i64 m), (5, .slice So q co), (9, .slice S2 l.length c2), (10, .int .i64 (l.length : Int)), (11, .int .i64 (k : Int))]) (by intro u; kernel_rfl) ?_
    refine SOps.nil (.inl rfl) ?_
    refine At.pick [1, 5, 9, 10, 11] (e' := [(1, .int .i64 m), (5, .slice So q co), (9, .slice S2 l.length c2), (10, .int .i64 (l.length : Int)), (11, .int .i64 ((k + 1 : Nat) : Int))]) (by kernel_rfl) ?_
    refine At.keep [1, 1, 1] (B := [Grow So co 3 1 q (ints acc), Grow S2 c2 30 4 l.length (l.flatMap encA), SetC s l]) (D := [Cells bx2 30 [.int .i64 ((l.getD k a0).id), .int .i64 ((l.getD k a0).minute), .int .i64 ((l.getD k a0).days), .bool ((l.getD k a0).off)]]) rfl ?_
    exact ih (k + 1) _ So co _ (by omega) (by omega) (by rw [he]; exact ringsL_no (by omega) (by assumption)) hql
  ·have hx1 : (k : Int) ≥ (l.length : Int) := by simpa using hx1
   refine At.cond 300 false (c := .tmp 12) (k1 := pt10_2) (k2 := pt10_3) (by kernel_rfl) (by intro u; kernel_rfl) (fun h => by cases h) (fun _ => ?_)
   refine At.pick [5] (e' := [(5, .slice So q co)]) (by kernel_rfl) ?_
   refine At.region (ops := opt10_3) (m := 2) (k' := kt10_8) (by kernel_rfl) 300 (k'' := pt10_8) (by kernel_rfl) ?_
   refine SOps.pures 2 (i' := 2) (m' := 0) (e' := [(4, .slice So q co), (25, .slice So q co), (5, .slice So q co)]) (by intro u; kernel_rfl) ?_
   refine SOps.nil (.inl rfl) ?_
   refine At.pick [4] (e' := [(4, .slice So q co)]) (by kernel_rfl) ?_
   refine At.ret1 (fn := Try.f10) (v := .slice So q co) (t := 4) (by kernel_rfl) Try.func10 (by kernel_rfl) (by kernel_rfl) (fun F w ho => ?_)
   have hk2 : acc = ringsL l m := by rw [he]; exact ringsL_all l m (by omega)
   subst hql; subst hk2
   exact shutX (p := fun _ => True) (So, co) rfl trivial [0, 1] rfl ho
theorem ringsS (s : Nat) (l : List Alarm) (hg : GoodA l) (m : Int) : Ctr Try.prog 10 #[.pointer (some ⟨s, 0, none⟩), .int .i64 m] [SetC s l] (fun v' => ex fun x : Option Addr × Nat => fact (v' = .slice x.1 (ringsL l m).length x.2) :: fact True :: [Grow x.1 x.2 3 1 (ringsL l m).length (ints (ringsL l m)), SetC s l]) false := by
 refine spec_of_at (fn := Try.f10) (c := bd10) (args := [.pointer (some ⟨s, 0, none⟩), .int .i64 m]) (n := 26) (e := [(0, .pointer (some ⟨s, 0, none⟩)), (1, .int .i64 m)]) (k := pt10_9) Try.func10 (by kernel_rfl) (by kernel_rfl) (by kernel_rfl) (by kernel_rfl) 300 (by kernel_rfl) ?_
 have hlen := hg.len
 refine At.region (ops := opt10_9) (m := 1) (k' := kt10_10) (by kernel_rfl) 300 (k'' := pt10_10) (by kernel_rfl) ?_
 refine SOps.pures 1 (i' := 1) (m' := 0) (e' := [(4, .slice none 0 0), (0, .pointer (some ⟨s, 0, none⟩)), (1, .int .i64 m)]) (by intro u; kernel_rfl) ?_
 refine SOps.nil (.inl rfl) ?_
 refine At.pick [0, 1] (e' := [(0, .pointer (some ⟨s, 0, none⟩)), (1, .int .i64 m)]) (by kernel_rfl) ?_
 refine At.region (ops := opt10_10) (m := 1) (k' := kt10_11) (by kernel_rfl) 300 (k'' := pt10_11) (by kernel_rfl) ?_
 refine SOps.pures 1 (i' := 1) (m' := 0) (e' := [(5, .slice none 0 0), (0, .pointer (some ⟨s, 0, none⟩)), (1, .int .i64 m)]) (by intro u; kernel_rfl) ?_
 refine SOps.nil (.inl rfl) ?_
 refine At.pick [0, 1, 5] (e' := [(0, .pointer (some ⟨s, 0, none⟩)), (1, .int .i64 m), (5, .slice none 0 0)]) (by kernel_rfl) ?_
 refine At.region (ops := opt10_11) (m := 4) (k' := kt10_12) (by kernel_rfl) 300 (k'' := pt10_0) (by kernel_rfl) ?_
 refine SOps.pures 1 (i' := 1) (m' := 3) (e' := [(8, .pointer (some ⟨s, 0, none⟩)), (0, .pointer (some ⟨s, 0, none⟩)), (1, .int .i64 m), (5, .slice none 0 0)]) (by intro u; kernel_rfl) ?_
 refine SOps.o (Op.callX 9 8 #[.pointer (some ⟨s, 0, none⟩)] _ _ [0] (B := [SetC s l]) (D := []) (by intro u; kernel_rfl) (allS s l hg) (by first | exact .inr rfl | exact .inl rfl) (by kernel_rfl) ?_)
 rintro ⟨Sx1, cx2⟩ -
 refine SOps.pures 2 (i' := 4) (m' := 0) (e' := [(11, .int .i64 0), (10, .int .i64 ((l.length : Nat) : Int)), (9, .slice Sx1 l.length cx2), (8, .pointer (some ⟨s, 0, none⟩)), (0, .pointer (some ⟨s, 0, none⟩)), (1, .int .i64 m), (5, .slice none 0 0)]) (by intro u; kernel_rfl) ?_
 refine SOps.nil (.inl rfl) ?_
 refine At.pick [1, 5, 9, 10, 11] (e' := [(1, .int .i64 m), (5, .slice none 0 0), (9, .slice Sx1 l.length cx2), (10, .int .i64 ((l.length : Nat) : Int)), (11, .int .i64 0)]) (by kernel_rfl) ?_
 refine At.conseq1 (fun F w ho => Grow.nil_ 3 1 ho) ?_
 refine At.keep [0, 0, 0] (B := [Grow none 0 3 1 0 (ints ([])), Grow Sx1 cx2 30 4 l.length (l.flatMap encA), SetC s l]) (D := []) rfl ?_
 exact ringsS_loop s l hg m Sx1 cx2 (l.length + 1) 0 0 none 0 [] (by omega) (by omega) rfl rfl
noncomputable def bd12 : Code := (Try.f12.body).getD .skip
noncomputable def kt12_0 : List Item := .code (pick [1, 1, 1, 1] bd12) :: []
noncomputable def kt12_1 : List Item := .inBlock 0 :: kt12_0
noncomputable def kt12_2 : List Item := .inLoop (pick [1, 1, 1, 0, 1, 0, 0] bd12) :: kt12_1
noncomputable def pt12_0 : List Item := .code (pick [1, 1, 1, 0, 1, 0, 0, 1, 1, 1] bd12) :: kt12_2
noncomputable def opt12_0 : Array Oper := opsOf (pick [1, 1, 1, 0, 1, 0, 0, 1, 1, 1] bd12)
noncomputable def kt12_3 : List Item := .code (pick [1, 1, 1, 0, 1, 0, 0, 1, 1, 1] bd12) :: kt12_2
noncomputable def kt12_4 : List Item := .inBlock 1 :: kt12_3
noncomputable def kt12_5 : List Item := .inBlock 2 :: kt12_4
noncomputable def kt12_6 : List Item := .inLoop (pick [1, 1, 1, 0, 1, 0, 0, 1, 1, 0, 0, 1, 1, 0, 0] bd12) :: kt12_5
noncomputable def kt12_7 : List Item := .code (pick [1, 1, 1, 0, 1, 0, 0, 1, 1, 0, 0, 1, 1, 0, 0, 1] bd12) :: kt12_6
noncomputable def pt12_1 : List Item := .code (pick [1, 1, 1, 0, 1, 0, 0, 1, 1, 0, 0, 1, 1, 0, 0, 0] bd12) :: kt12_7
noncomputable def opt12_1 : Array Oper := opsOf (pick [1, 1, 1, 0, 1, 0, 0, 1, 1, 0, 0, 1, 1, 0, 0, 0] bd12)
noncomputable def kt12_8 : List Item := .code (pick [1, 1, 1, 0, 1, 0, 0, 1, 1, 0, 0, 1, 1, 0, 0, 1, 1] bd12) :: kt12_6
noncomputable def pt12_2 : List Item := .code (pick [1, 1, 1, 0, 1, 0, 0, 1, 1, 0, 0, 1, 1, 0, 0, 1, 0] bd12) :: kt12_8
noncomputable def kt12_9 : List Item := .code (pick [1, 1, 1, 0, 1, 0, 0, 1, 1, 0, 0, 1, 1, 0, 0, 1, 1, 1] bd12) :: kt12_6
noncomputable def kt12_10 : List Item := .inBlock 3 :: kt12_9
noncomputable def kt12_11 : List Item := .code (pick [1, 1, 1, 0, 1, 0, 0, 1, 1, 0, 0, 1, 1, 0, 0, 1, 1, 0, 0, 1] bd12) :: kt12_10
noncomputable def pt12_3 : List Item := .code (pick [1, 1, 1, 0, 1, 0, 0, 1, 1, 0, 0, 1, 1, 0, 0, 1, 1, 0, 0, 0] bd12) :: kt12_11
noncomputable def opt12_3 : Array Oper := opsOf (pick [1, 1, 1, 0, 1, 0, 0, 1, 1, 0, 0, 1, 1, 0, 0, 1, 1, 0, 0, 0] bd12)
noncomputable def kt12_12 : List Item := .code (pick [1, 1, 1, 0, 1, 0, 0, 1, 1, 0, 0, 1, 1, 0, 0, 1, 1, 0, 0, 1, 1] bd12) :: kt12_10
noncomputable def pt12_4 : List Item := .code (pick [1, 1, 1, 0, 1, 0, 0, 1, 1, 0, 0, 1, 1, 0, 0, 1, 1, 0, 0, 1, 0] bd12) :: kt12_12
noncomputable def opt12_4 : Array Oper := opsOf (pick [1, 1, 1, 0, 1, 0, 0, 1, 1, 0, 0, 1, 1, 0, 0, 1, 1, 0, 0, 1, 0] bd12)
noncomputable def kt12_13 : List Item := .code (pick [1, 1, 1, 0, 1, 0, 0, 1, 1, 0, 0, 1, 1, 0, 0, 1, 1, 0, 0, 1, 1, 1] bd12) :: kt12_10
noncomputable def pt12_5 : List Item := .code (pick [1, 1, 1, 0, 1, 0, 0, 1, 1, 0, 0, 1, 1, 0, 0, 1, 1, 0, 0, 1, 1, 0] bd12) :: kt12_13
noncomputable def opt12_5 : Array Oper := opsOf (pick [1, 1, 1, 0, 1, 0, 0, 1, 1, 0, 0, 1, 1, 0, 0, 1, 1, 0, 0, 1, 1, 0] bd12)
noncomputable def kt12_14 : List Item := .code (pick [1, 1, 1, 0, 1, 0, 0, 1, 1, 0, 0, 1, 1, 0, 0, 1, 1, 0, 0, 1, 1, 1, 1] bd12) :: kt12_10
noncomputable def pt12_6 : List Item := .code (pick [1, 1, 1, 0, 1, 0, 0, 1, 1, 0, 0, 1, 1, 0, 0, 1, 1, 0, 0, 1, 1, 1, 0] bd12) :: kt12_14
noncomputable def opt12_6 : Array Oper := opsOf (pick [1, 1, 1, 0, 1, 0, 0, 1, 1, 0, 0, 1, 1, 0, 0, 1, 1, 0, 0, 1, 1, 1, 0] bd12)
noncomputable def pt12_7 : List Item := .code (pick [1, 1, 1, 0, 1, 0, 0, 1, 1, 0, 0, 1, 1, 0, 0, 1, 1, 0, 0, 1, 1, 1, 1] bd12) :: kt12_10
noncomputable def pt12_8 : List Item := .code (pick [1, 1, 1, 0, 1, 0, 0, 1, 1, 0, 0, 1, 1, 0, 0, 1, 1, 0, 0, 1, 1, 1, 1, 0] bd12) :: kt12_10
noncomputable def opt12_8 : Array Oper := opsOf (pick [1, 1, 1, 0, 1, 0, 0, 1, 1, 0, 0, 1, 1, 0, 0, 1, 1, 0, 0, 1, 1, 1, 1, 0] bd12)
noncomputable def pt12_9 : List Item := .code (pick [1, 1, 1, 0, 1, 0, 0, 1, 1, 0, 0, 1, 1, 0, 0, 1, 1, 1] bd12) :: kt12_6
noncomputable def opt12_9 : Array Oper := opsOf (pick [1, 1, 1, 0, 1, 0, 0, 1, 1, 0, 0, 1, 1, 0, 0, 1, 1, 1] bd12)
noncomputable def kt12_15 : List Item := .code (pick [1, 1, 1, 0, 1, 0, 0, 1] bd12) :: kt12_2
noncomputable def pt12_10 : List Item := .code (pick [1, 1, 1, 0, 1, 0, 0, 0] bd12) :: kt12_15
noncomputable def opt12_10 : Array Oper := opsOf (pick [1, 1, 1, 0, 1, 0, 0, 0] bd12)
noncomputable def kt12_16 : List Item := .code (pick [1, 1, 1, 0, 1, 0, 0, 1, 1] bd12) :: kt12_2
noncomputable def pt12_11 : List Item := .code (pick [1, 1, 1, 0, 1, 0, 0, 1, 0] bd12) :: kt12_16
noncomputable def kt12_17 : List Item := .code (pick [1, 1, 1, 0, 1, 0, 0, 1, 1, 0, 0, 1] bd12) :: kt12_4
noncomputable def pt12_12 : List Item := .code (pick [1, 1, 1, 0, 1, 0, 0, 1, 1, 0, 0, 0] bd12) :: kt12_17
noncomputable def opt12_12 : Array Oper := opsOf (pick [1, 1, 1, 0, 1, 0, 0, 1, 1, 0, 0, 0] bd12)
noncomputable def kt12_18 : List Item := .code (pick [1, 1, 1, 1, 1] bd12) :: []
noncomputable def kt12_19 : List Item := .code (pick [1, 1, 1, 1, 0, 1] bd12) :: kt12_18
noncomputable def pt12_13 : List Item := .code (pick [1, 1, 1, 1, 0, 0] bd12) :: kt12_19
noncomputable def opt12_13 : Array Oper := opsOf (pick [1, 1, 1, 1, 0, 0] bd12)
noncomputable def kt12_20 : List Item := .code (pick [1, 1, 1, 0, 1, 0, 0, 1, 1, 0, 0, 1, 1] bd12) :: kt12_4
noncomputable def pt12_14 : List Item := .code (pick [1, 1, 1, 0, 1, 0, 0, 1, 1, 0, 0, 1, 0] bd12) :: kt12_20
noncomputable def opt12_14 : Array Oper := opsOf (pick [1, 1, 1, 0, 1, 0, 0, 1, 1, 0, 0, 1, 0] bd12)
noncomputable def pt12_15 : List Item := .code (pick [1, 1, 1, 1, 0, 1] bd12) :: kt12_18
noncomputable def kt12_21 : List Item := .code (pick [1, 1, 1, 1, 0, 1, 0, 1] bd12) :: kt12_18
noncomputable def pt12_16 : List Item := .code (pick [1, 1, 1, 1, 0, 1, 0, 0] bd12) :: kt12_21
noncomputable def opt12_16 : Array Oper := opsOf (pick [1, 1, 1, 1, 0, 1, 0, 0] bd12)
noncomputable def kt12_22 : List Item := .code (pick [1, 1, 1, 1, 1, 1] bd12) :: []
noncomputable def pt12_17 : List Item := .code (pick [1, 1, 1, 1, 1, 0] bd12) :: kt12_22
noncomputable def opt12_17 : Array Oper := opsOf (pick [1, 1, 1, 1, 1, 0] bd12)
noncomputable def pt12_18 : List Item := .code (pick [1, 1, 1, 1, 0, 1, 0, 1] bd12) :: kt12_18
noncomputable def pt12_19 : List Item := .code (pick [1, 1, 1, 1, 1, 1] bd12) :: []
noncomputable def kt12_23 : List Item := .code (pick [1] bd12) :: []
noncomputable def pt12_20 : List Item := .code (pick [0] bd12) :: kt12_23
noncomputable def opt12_20 : Array Oper := opsOf (pick [0] bd12)
noncomputable def kt12_24 : List Item := .code (pick [1, 1] bd12) :: []
noncomputable def pt12_21 : List Item := .code (pick [1, 0] bd12) :: kt12_24
noncomputable def opt12_21 : Array Oper := opsOf (pick [1, 0] bd12)
noncomputable def kt12_25 : List Item := .code (pick [1, 1, 1] bd12) :: []
noncomputable def pt12_22 : List Item := .code (pick [1, 1, 0] bd12) :: kt12_25
noncomputable def opt12_22 : Array Oper := opsOf (pick [1, 1, 0] bd12)
noncomputable def kt12_26 : List Item := .code (pick [1, 1, 1, 0, 1] bd12) :: kt12_0
noncomputable def pt12_23 : List Item := .code (pick [1, 1, 1, 0, 0] bd12) :: kt12_26
noncomputable def opt12_23 : Array Oper := opsOf (pick [1, 1, 1, 0, 0] bd12)
theorem next_inner (s : Nat) (l : List Alarm) (hg : GoodA l) (m : Int) (S2 : Option Addr) (c2 ba k : Nat) (hkl : k < l.length) (hK : ∀ best : Int, best = nI (l.getD k a0) (m % 10080) (nO l (m % 10080) k) 7 → At ⟨Try.prog, 12, (fun v' => ex fun x : Option Addr × Nat => fact (v' = .tuple #[.int .i64 (nextN l m), .slice x.1 (nextR l m).length x.2]) :: fact True :: [Grow x.1 x.2 3 1 (nextR l m).length (ints (nextR l m)), SetC s l]), 59, false⟩ pt12_0 [(0, .pointer (some ⟨s, 0, none⟩)), (6, .int .i64 (m % 10080)), (7, .int .i64 best), (16, .slice S2 l.length c2), (17, .int .i64 (l.length : Int)), (18, .int .i64 (k : Int))] [Grow S2 c2 30 4 l.length (l.flatMap encA), SetC s l]) : ∀ (mm d : Nat) (best : Int), 7 - d < mm → d ≤ 7 → best = nI (l.getD k a0) (m % 10080) (nO l (m % 10080) k) d → At ⟨Try.prog, 12, (fun v' => ex fun x : Option Addr × Nat => fact (v' = .tuple #[.int .i64 (nextN l m), .slice x.1 (nextR l m).length x.2]) :: fact True :: [Grow x.1 x.2 3 1 (nextR l m).length (ints (nextR l m)), SetC s l]), 59, false⟩ pt12_1 [(0, .pointer (some ⟨s, 0, none⟩)), (6, .int .i64 (m % 10080)), (7, .int .i64 best), (9, .pointer (some ⟨ba, 0, none⟩)), (16, .slice S2 l.length c2), (17, .int .i64 (l.length : Int)), (18, .int .i64 (k : Int)), (22, .int .i64 (d : Int))] [Cells ba 30 [.int .i64 ((l.getD k a0).id), .int .i64 ((l.getD k a0).minute), .int .i64 ((l.getD k a0).days), .bool ((l.getD k a0).off)], Grow S2 c2 30 4 l.length (l.flatMap encA), SetC s l] := by
 have hlen := hg.len
 have hd4 := days_ok hg hkl
 intro mm
 induction mm with
 | zero => intro d best h; omega
 | succ mm ih =>
  intro d best hm hd hb0
  have hb := hb0.symm
  have hbr := nI_range (a := l.getD k a0) (at_ := m % 10080) (nO_range (l := l) (at_ := m % 10080) k) d
  rw [hb] at hbr
  refine At.region (ops := opt12_1) (m := 1) (k' := kt12_7) (by kernel_rfl) 300 (k'' := pt12_2) (by kernel_rfl) ?_
  refine SOps.pures 1 (i' := 1) (m' := 0) (e' := [(23, .bool (decide ((d : Int) < 7))), (0, .pointer (some ⟨s, 0, none⟩)), (6, .int .i64 (m % 10080)), (7, .int .i64 best), (9, .pointer (some ⟨ba, 0, none⟩)), (16, .slice S2 l.length c2), (17, .int .i64 (l.length : Int)), (18, .int .i64 (k : Int)), (22, .int .i64 (d : Int))]) (by intro u; kernel_rfl) ?_
  refine SOps.nil (.inl rfl) ?_
  refine At.pick [0, 6, 7, 9, 16, 17, 18, 22, 23] (e' := [(0, .pointer (some ⟨s, 0, none⟩)), (6, .int .i64 (m % 10080)), (7, .int .i64 best), (9, .pointer (some ⟨ba, 0, none⟩)), (16, .slice S2 l.length c2), (17, .int .i64 (l.length : Int)), (18, .int .i64 (k : Int)), (22, .int .i64 (d : Int)), (23, .bool (decide ((d : Int) < 7)))]) (by kernel_rfl) ?_
  refine At.split (fun zq => [(0, .pointer (some ⟨s, 0, none⟩)), (6, .int .i64 (m % 10080)), (7, .int .i64 best), (9, .pointer (some ⟨ba, 0, none⟩)), (16, .slice S2 l.length c2), (17, .int .i64 (l.length : Int)), (18, .int .i64 (k : Int)), (22, .int .i64 (d : Int)), (23, .bool zq)]) (decide ((d : Int) < 7)) (fun hx1 => ?_) (fun hx1 => ?_)
  ·have hx1 : (d : Int) < 7 := by simpa using hx1
   refine At.cond 300 true (c := .tmp 23) (k1 := pt12_3) (k2 := pt12_0) (by kernel_rfl) (by intro u; kernel_rfl) (fun _ => ?_) (fun h => by cases h)
   refine At.pick [0, 6, 7, 9, 16, 17, 18, 22] (e' := [(0, .pointer (some ⟨s, 0, none⟩)), (6, .int .i64 (m % 10080)), (7, .int .i64 best), (9, .pointer (some ⟨ba, 0, none⟩)), (16, .slice S2 l.length c2), (17, .int .i64 (l.length : Int)), (18, .int .i64 (k : Int)), (22, .int .i64 (d : Int))]) (by kernel_rfl) ?_
   refine At.region (ops := opt12_3) (m := 2) (k' := kt12_11) (by kernel_rfl) 300 (k'' := pt12_4) (by kernel_rfl) ?_
   refine SOps.pures 2 (i' := 2) (m' := 0) (e' := [(10, .int .i64 (d : Int)), (24, .int .i64 (d : Int)), (0, .pointer (some ⟨s, 0, none⟩)), (6, .int .i64 (m % 10080)), (7, .int .i64 best), (9, .pointer (some ⟨ba, 0, none⟩)), (16, .slice S2 l.length c2), (17, .int .i64 (l.length : Int)), (18, .int .i64 (k : Int)), (22, .int .i64 (d : Int))]) (by intro u; kernel_rfl) ?_
   refine SOps.nil (.inl rfl) ?_
   refine At.pick [0, 6, 7, 9, 10, 16, 17, 18, 22] (e' := [(0, .pointer (some ⟨s, 0, none⟩)), (6, .int .i64 (m % 10080)), (7, .int .i64 best), (9, .pointer (some ⟨ba, 0, none⟩)), (10, .int .i64 (d : Int)), (16, .slice S2 l.length c2), (17, .int .i64 (l.length : Int)), (18, .int .i64 (k : Int)), (22, .int .i64 (d : Int))]) (by kernel_rfl) ?_
   refine At.region (ops := opt12_4) (m := 6) (k' := kt12_12) (by kernel_rfl) 300 (k'' := pt12_5) (by kernel_rfl) ?_
   refine SOps.pures 1 (i' := 1) (m' := 5) (e' := [(25, .int .i64 (d : Int)), (0, .pointer (some ⟨s, 0, none⟩)), (6, .int .i64 (m % 10080)), (7, .int .i64 best), (9, .pointer (some ⟨ba, 0, none⟩)), (10, .int .i64 (d : Int)), (16, .slice S2 l.length c2), (17, .int .i64 (l.length : Int)), (18, .int .i64 (k : Int)), (22, .int .i64 (d : Int))]) (by intro u; kernel_rfl) ?_
   refine SOps.v (Val.pe 26 (.int .i64 (IntKind.i64.wrap ((d : Int) * 1440))) (.int .i64 ((d : Int) * 1440)) (by intro u; kernel_rfl) (i64_in rfl (by omega) (by omega))) ?_
   refine SOps.pures 1 (i' := 3) (m' := 3) (e' := [(27, .pointer (some ⟨ba, 1, none⟩)), (26, .int .i64 ((d : Int) * 1440)), (25, .int .i64 (d : Int)), (0, .pointer (some ⟨s, 0, none⟩)), (6, .int .i64 (m % 10080)), (7, .int .i64 best), (9, .pointer (some ⟨ba, 0, none⟩)), (10, .int .i64 (d : Int)), (16, .slice S2 l.length c2), (17, .int .i64 (l.length : Int)), (18, .int .i64 (k : Int)), (22, .int .i64 (d : Int))]) (by intro u; kernel_rfl) ?_
   refine SOps.v (Val.ld1 0 28 3 ba 1 (.int .i64 ((l.getD k a0).minute)) rfl (by intro u; kernel_rfl) (by kernel_rfl) (Rd.cells rfl)) ?_
   have hd4 := days_ok hg (k := k) (by omega)
   refine SOps.v (Val.pe 29 (.int .i64 (IntKind.i64.wrap (((d : Int) * 1440) + ((l.getD k a0).minute)))) (.int .i64 (((d : Int) * 1440) + ((l.getD k a0).minute))) (by intro u; kernel_rfl) (i64_in rfl (by omega) (by omega))) ?_
   refine SOps.pures 1 (i' := 6) (m' := 0) (e' := [(11, .int .i64 (((d : Int) * 1440) + ((l.getD k a0).minute))), (29, .int .i64 (((d : Int) * 1440) + ((l.getD k a0).minute))), (28, .int .i64 ((l.getD k a0).minute)), (27, .pointer (some ⟨ba, 1, none⟩)), (26, .int .i64 ((d : Int) * 1440)), (25, .int .i64 (d : Int)), (0, .pointer (some ⟨s, 0, none⟩)), (6, .int .i64 (m % 10080)), (7, .int .i64 best), (9, .pointer (some ⟨ba, 0, none⟩)), (10, .int .i64 (d : Int)), (16, .slice S2 l.length c2), (17, .int .i64 (l.length : Int)), (18, .int .i64 (k : Int)), (22, .int .i64 (d : Int))]) (by intro u; kernel_rfl) ?_
   refine SOps.nil (.inl rfl) ?_
   refine At.pick [0, 6, 7, 9, 11, 16, 17, 18, 22] (e' := [(0, .pointer (some ⟨s, 0, none⟩)), (6, .int .i64 (m % 10080)), (7, .int .i64 best), (9, .pointer (some ⟨ba, 0, none⟩)), (11, .int .i64 (((d : Int) * 1440) + ((l.getD k a0).minute))), (16, .slice S2 l.length c2), (17, .int .i64 (l.length : Int)), (18, .int .i64 (k : Int)), (22, .int .i64 (d : Int))]) (by kernel_rfl) ?_
   refine At.region (ops := opt12_5) (m := 7) (k' := kt12_13) (by kernel_rfl) 300 (k'' := pt12_6) (by kernel_rfl) ?_
   refine SOps.pures 2 (i' := 2) (m' := 5) (e' := [(31, .int .i64 (m % 10080)), (30, .int .i64 (((d : Int) * 1440) + ((l.getD k a0).minute))), (0, .pointer (some ⟨s, 0, none⟩)), (6, .int .i64 (m % 10080)), (7, .int .i64 best), (9, .pointer (some ⟨ba, 0, none⟩)), (11, .int .i64 (((d : Int) * 1440) + ((l.getD k a0).minute))), (16, .slice S2 l.length c2), (17, .int .i64 (l.length : Int)), (18, .int .i64 (k : Int)), (22, .int .i64 (d : Int))]) (by intro u; kernel_rfl) ?_
   refine SOps.v (Val.pe 32 (.int .i64 (IntKind.i64.wrap ((((d : Int) * 1440) + ((l.getD k a0).minute)) - (m % 10080)))) (.int .i64 ((((d : Int) * 1440) + ((l.getD k a0).minute)) - (m % 10080))) (by intro u; kernel_rfl) (i64_in rfl (by omega) (by omega))) ?_
   refine SOps.v (Val.pe 33 (.int .i64 (IntKind.i64.wrap (((((d : Int) * 1440) + ((l.getD k a0).minute)) - (m % 10080)) - 1))) (.int .i64 (((((d : Int) * 1440) + ((l.getD k a0).minute)) - (m % 10080)) - 1)) (by intro u; kernel_rfl) (i64_in rfl (by omega) (by omega))) ?_
   refine SOps.o (Op.callS 34 20 #[.int .i64 (((((d : Int) * 1440) + ((l.getD k a0).minute)) - (m % 10080)) - 1)] (.int .i64 ((((((d : Int) * 1440) + ((l.getD k a0).minute)) - (m % 10080)) - 1) % 10080)) [] (B := []) (D := [Cells ba 30 [.int .i64 ((l.getD k a0).id), .int .i64 ((l.getD k a0).minute), .int .i64 ((l.getD k a0).days), .bool ((l.getD k a0).off)], Grow S2 c2 30 4 l.length (l.flatMap encA), SetC s l]) (by intro u; kernel_rfl) (within (((((d : Int) * 1440) + ((l.getD k a0).minute)) - (m % 10080)) - 1)) (by first | exact .inr rfl | exact .inl rfl) (by kernel_rfl) ?_)
   have hwr : 0 ≤ waitA ((d : Int) * 1440 + (l.getD k a0).minute) (m % 10080) ∧ waitA ((d : Int) * 1440 + (l.getD k a0).minute) (m % 10080) ≤ 10080 := by unfold waitA; omega
   refine SOps.v (Val.pe 35 (.int .i64 (IntKind.i64.wrap (((((((d : Int) * 1440) + ((l.getD k a0).minute)) - (m % 10080)) - 1) % 10080) + 1))) (.int .i64 (waitA ((d : Int) * 1440 + (l.getD k a0).minute) (m % 10080))) (by intro u; kernel_rfl) (i64_in (by unfold waitA; rfl) (by omega) (by omega))) ?_
   refine SOps.pures 1 (i' := 7) (m' := 0) (e' := [(12, .int .i64 (waitA ((d : Int) * 1440 + (l.getD k a0).minute) (m % 10080))), (35, .int .i64 (waitA ((d : Int) * 1440 + (l.getD k a0).minute) (m % 10080))), (34, .int .i64 ((((((d : Int) * 1440) + ((l.getD k a0).minute)) - (m % 10080)) - 1) % 10080)), (33, .int .i64 (((((d : Int) * 1440) + ((l.getD k a0).minute)) - (m % 10080)) - 1)), (32, .int .i64 ((((d : Int) * 1440) + ((l.getD k a0).minute)) - (m % 10080))), (31, .int .i64 (m % 10080)), (30, .int .i64 (((d : Int) * 1440) + ((l.getD k a0).minute))), (0, .pointer (some ⟨s, 0, none⟩)), (6, .int .i64 (m % 10080)), (7, .int .i64 best), (9, .pointer (some ⟨ba, 0, none⟩)), (11, .int .i64 (((d : Int) * 1440) + ((l.getD k a0).minute))), (16, .slice S2 l.length c2), (17, .int .i64 (l.length : Int)), (18, .int .i64 (k : Int)), (22, .int .i64 (d : Int))]) (by intro u; kernel_rfl) ?_
   refine SOps.nil (.inl rfl) ?_
   refine At.pick [0, 6, 7, 9, 11, 12, 16, 17, 18, 22] (e' := [(0, .pointer (some ⟨s, 0, none⟩)), (6, .int .i64 (m % 10080)), (7, .int .i64 best), (9, .pointer (some ⟨ba, 0, none⟩)), (11, .int .i64 (((d : Int) * 1440) + ((l.getD k a0).minute))), (12, .int .i64 (waitA ((d : Int) * 1440 + (l.getD k a0).minute) (m % 10080))), (16, .slice S2 l.length c2), (17, .int .i64 (l.length : Int)), (18, .int .i64 (k : Int)), (22, .int .i64 (d : Int))]) (by kernel_rfl) ?_
   have hmm : 0 ≤ (d : Int) * 1440 + (l.getD k a0).minute ∧ (d : Int) * 1440 + (l.getD k a0).minute < 10080 := by omega
   have hdd : 0 ≤ (l.getD k a0).days ∧ (l.getD k a0).days < 128 := by omega
   refine At.region (ops := opt12_6) (m := 12) (k' := kt12_14) (by kernel_rfl) 300 (k'' := pt12_7) (by kernel_rfl) ?_
   refine SOps.v (Val.ldN 0 36 30 ba 0 4 [.int .i64 ((l.getD k a0).id), .int .i64 ((l.getD k a0).minute), .int .i64 ((l.getD k a0).days), .bool ((l.getD k a0).off)] rfl (by intro u; kernel_rfl) (by kernel_rfl) (by kernel_rfl) rfl ⟨(Rd.cells rfl), (Rd.cells rfl), (Rd.cells rfl), (Rd.cells rfl), trivial⟩) ?_
   refine SOps.pures 1 (i' := 2) (m' := 10) (e' := [(37, .int .i64 (((d : Int) * 1440) + ((l.getD k a0).minute))), (36, .agg #[.int .i64 ((l.getD k a0).id), .int .i64 ((l.getD k a0).minute), .int .i64 ((l.getD k a0).days), .bool ((l.getD k a0).off)]), (0, .pointer (some ⟨s, 0, none⟩)), (6, .int .i64 (m % 10080)), (7, .int .i64 best), (9, .pointer (some ⟨ba, 0, none⟩)), (11, .int .i64 (((d : Int) * 1440) + ((l.getD k a0).minute))), (12, .int .i64 (waitA ((d : Int) * 1440 + (l.getD k a0).minute) (m % 10080))), (16, .slice S2 l.length c2), (17, .int .i64 (l.length : Int)), (18, .int .i64 (k : Int)), (22, .int .i64 (d : Int))]) (by intro u; kernel_rfl) ?_
   refine SOps.o (Op.callS 38 19 #[.agg #[.int .i64 ((l.getD k a0).id), .int .i64 ((l.getD k a0).minute), .int .i64 ((l.getD k a0).days), .bool ((l.getD k a0).off)], .int .i64 (((d : Int) * 1440) + ((l.getD k a0).minute))] (.bool (ringsA (l.getD k a0) (((d : Int) * 1440) + ((l.getD k a0).minute)))) [] (B := []) (D := [Cells ba 30 [.int .i64 ((l.getD k a0).id), .int .i64 ((l.getD k a0).minute), .int .i64 ((l.getD k a0).days), .bool ((l.getD k a0).off)], Grow S2 c2 30 4 l.length (l.flatMap encA), SetC s l]) (by intro u; kernel_rfl) (ringsF (l.getD k a0) (((d : Int) * 1440) + ((l.getD k a0).minute)) hmm hdd) (by first | exact .inr rfl | exact .inl rfl) (by kernel_rfl) ?_)
   refine SOps.pures 1 (i' := 4) (m' := 8) (e' := [(39, .bool (ringsA (l.getD k a0) (((d : Int) * 1440) + ((l.getD k a0).minute)))), (38, .bool (ringsA (l.getD k a0) (((d : Int) * 1440) + ((l.getD k a0).minute)))), (37, .int .i64 (((d : Int) * 1440) + ((l.getD k a0).minute))), (36, .agg #[.int .i64 ((l.getD k a0).id), .int .i64 ((l.getD k a0).minute), .int .i64 ((l.getD k a0).days), .bool ((l.getD k a0).off)]), (0, .pointer (some ⟨s, 0, none⟩)), (6, .int .i64 (m % 10080)), (7, .int .i64 best), (9, .pointer (some ⟨ba, 0, none⟩)), (11, .int .i64 (((d : Int) * 1440) + ((l.getD k a0).minute))), (12, .int .i64 (waitA ((d : Int) * 1440 + (l.getD k a0).minute) (m % 10080))), (16, .slice S2 l.length c2), (17, .int .i64 (l.length : Int)), (18, .int .i64 (k : Int)), (22, .int .i64 (d : Int))]) (by intro u; kernel_rfl) ?_
   refine SOps.split (fun zq => [(39, .bool zq), (38, .bool zq), (37, .int .i64 (((d : Int) * 1440) + ((l.getD k a0).minute))), (36, .agg #[.int .i64 ((l.getD k a0).id), .int .i64 ((l.getD k a0).minute), .int .i64 ((l.getD k a0).days), .bool ((l.getD k a0).off)]), (0, .pointer (some ⟨s, 0, none⟩)), (6, .int .i64 (m % 10080)), (7, .int .i64 best), (9, .pointer (some ⟨ba, 0, none⟩)), (11, .int .i64 (((d : Int) * 1440) + ((l.getD k a0).minute))), (12, .int .i64 (waitA ((d : Int) * 1440 + (l.getD k a0).minute) (m % 10080))), (16, .slice S2 l.length c2), (17, .int .i64 (l.length : Int)), (18, .int .i64 (k : Int)), (22, .int .i64 (d : Int))]) ((ringsA (l.getD k a0) (((d : Int) * 1440) + ((l.getD k a0).minute)))) (fun hx2 => ?_) (fun hx2 => ?_)
   ·have hx2 : (ringsA (l.getD k a0) (((d : Int) * 1440) + ((l.getD k a0).minute))) = true := by simpa using hx2
    refine SOps.pures 3 (i' := 7) (m' := 5) (e' := [(42, .bool (best == 0)), (41, .bool (best == 0)), (40, .int .i64 best), (39, .bool true), (38, .bool true), (37, .int .i64 (((d : Int) * 1440) + ((l.getD k a0).minute))), (36, .agg #[.int .i64 ((l.getD k a0).id), .int .i64 ((l.getD k a0).minute), .int .i64 ((l.getD k a0).days), .bool ((l.getD k a0).off)]), (0, .pointer (some ⟨s, 0, none⟩)), (6, .int .i64 (m % 10080)), (7, .int .i64 best), (9, .pointer (some ⟨ba, 0, none⟩)), (11, .int .i64 (((d : Int) * 1440) + ((l.getD k a0).minute))), (12, .int .i64 (waitA ((d : Int) * 1440 + (l.getD k a0).minute) (m % 10080))), (16, .slice S2 l.length c2), (17, .int .i64 (l.length : Int)), (18, .int .i64 (k : Int)), (22, .int .i64 (d : Int))]) (by intro u; kernel_rfl) ?_
    refine SOps.split (fun zq => [(42, .bool zq), (41, .bool zq), (40, .int .i64 best), (39, .bool true), (38, .bool true), (37, .int .i64 (((d : Int) * 1440) + ((l.getD k a0).minute))), (36, .agg #[.int .i64 ((l.getD k a0).id), .int .i64 ((l.getD k a0).minute), .int .i64 ((l.getD k a0).days), .bool ((l.getD k a0).off)]), (0, .pointer (some ⟨s, 0, none⟩)), (6, .int .i64 (m % 10080)), (7, .int .i64 best), (9, .pointer (some ⟨ba, 0, none⟩)), (11, .int .i64 (((d : Int) * 1440) + ((l.getD k a0).minute))), (12, .int .i64 (waitA ((d : Int) * 1440 + (l.getD k a0).minute) (m % 10080))), (16, .slice S2 l.length c2), (17, .int .i64 (l.length : Int)), (18, .int .i64 (k : Int)), (22, .int .i64 (d : Int))]) ((best == 0)) (fun hx3 => ?_) (fun hx3 => ?_)
    ·have hx3 : best = 0 := by simpa using hx3
     refine SOps.pures 5 (i' := 12) (m' := 0) (e' := [(47, .bool true), (46, .bool true), (45, .tuple #[]), (44, .tuple #[]), (43, .tuple #[]), (42, .bool true), (41, .bool true), (40, .int .i64 best), (39, .bool true), (38, .bool true), (37, .int .i64 (((d : Int) * 1440) + ((l.getD k a0).minute))), (36, .agg #[.int .i64 ((l.getD k a0).id), .int .i64 ((l.getD k a0).minute), .int .i64 ((l.getD k a0).days), .bool ((l.getD k a0).off)]), (0, .pointer (some ⟨s, 0, none⟩)), (6, .int .i64 (m % 10080)), (7, .int .i64 best), (9, .pointer (some ⟨ba, 0, none⟩)), (11, .int .i64 (((d : Int) * 1440) + ((l.getD k a0).minute))), (12, .int .i64 (waitA ((d : Int) * 1440 + (l.getD k a0).minute) (m % 10080))), (16, .slice S2 l.length c2), (17, .int .i64 (l.length : Int)), (18, .int .i64 (k : Int)), (22, .int .i64 (d : Int))]) (by intro u; kernel_rfl) ?_
     refine SOps.nil (.inl rfl) ?_
     refine At.pick [0, 6, 7, 9, 12, 16, 17, 18, 22, 47] (e' := [(0, .pointer (some ⟨s, 0, none⟩)), (6, .int .i64 (m % 10080)), (7, .int .i64 best), (9, .pointer (some ⟨ba, 0, none⟩)), (12, .int .i64 (waitA ((d : Int) * 1440 + (l.getD k a0).minute) (m % 10080))), (16, .slice S2 l.length c2), (17, .int .i64 (l.length : Int)), (18, .int .i64 (k : Int)), (22, .int .i64 (d : Int)), (47, .bool true)]) (by kernel_rfl) ?_
     refine At.cond 300 true (c := .tmp 47) (k1 := pt12_8) (k2 := pt12_9) (by kernel_rfl) (by intro u; kernel_rfl) (fun _ => ?_) (fun h => by cases h)
     refine At.pick [0, 6, 9, 12, 16, 17, 18, 22] (e' := [(0, .pointer (some ⟨s, 0, none⟩)), (6, .int .i64 (m % 10080)), (9, .pointer (some ⟨ba, 0, none⟩)), (12, .int .i64 (waitA ((d : Int) * 1440 + (l.getD k a0).minute) (m % 10080))), (16, .slice S2 l.length c2), (17, .int .i64 (l.length : Int)), (18, .int .i64 (k : Int)), (22, .int .i64 (d : Int))]) (by kernel_rfl) ?_
     refine At.region (ops := opt12_8) (m := 2) (k' := kt12_10) (by kernel_rfl) 300 (k'' := pt12_9) (by kernel_rfl) ?_
     refine SOps.pures 2 (i' := 2) (m' := 0) (e' := [(7, .int .i64 (waitA ((d : Int) * 1440 + (l.getD k a0).minute) (m % 10080))), (48, .int .i64 (waitA ((d : Int) * 1440 + (l.getD k a0).minute) (m % 10080))), (0, .pointer (some ⟨s, 0, none⟩)), (6, .int .i64 (m % 10080)), (9, .pointer (some ⟨ba, 0, none⟩)), (12, .int .i64 (waitA ((d : Int) * 1440 + (l.getD k a0).minute) (m % 10080))), (16, .slice S2 l.length c2), (17, .int .i64 (l.length : Int)), (18, .int .i64 (k : Int)), (22, .int .i64 (d : Int))]) (by intro u; kernel_rfl) ?_
     refine SOps.nil (.inl rfl) ?_
     refine At.pick [0, 6, 7, 9, 16, 17, 18, 22] (e' := [(0, .pointer (some ⟨s, 0, none⟩)), (6, .int .i64 (m % 10080)), (7, .int .i64 (waitA ((d : Int) * 1440 + (l.getD k a0).minute) (m % 10080))), (9, .pointer (some ⟨ba, 0, none⟩)), (16, .slice S2 l.length c2), (17, .int .i64 (l.length : Int)), (18, .int .i64 (k : Int)), (22, .int .i64 (d : Int))]) (by kernel_rfl) ?_
     refine At.region (ops := opt12_9) (m := 2) (k' := kt12_6) (by kernel_rfl) 300 (k'' := pt12_1) (by kernel_rfl) ?_
     refine SOps.v (Val.pe 49 (.int .i64 (IntKind.i64.wrap ((d : Int) + 1))) (.int .i64 ((d + 1 : Nat) : Int)) (by intro u; kernel_rfl) (i64_in (by omega) (by omega) (by omega))) ?_
     refine SOps.pures 1 (i' := 2) (m' := 0) (e' := [(22, .int .i64 ((d + 1 : Nat) : Int)), (49, .int .i64 ((d + 1 : Nat) : Int)), (0, .pointer (some ⟨s, 0, none⟩)), (6, .int .i64 (m % 10080)), (7, .int .i64 (waitA ((d : Int) * 1440 + (l.getD k a0).minute) (m % 10080))), (9, .pointer (some ⟨ba, 0, none⟩)), (16, .slice S2 l.length c2), (17, .int .i64 (l.length : Int)), (18, .int .i64 (k : Int)), (22, .int .i64 (d : Int))]) (by intro u; kernel_rfl) ?_
     refine SOps.nil (.inl rfl) ?_
     refine At.pick [0, 6, 7, 9, 16, 17, 18, 22] (e' := [(0, .pointer (some ⟨s, 0, none⟩)), (6, .int .i64 (m % 10080)), (7, .int .i64 (waitA ((d : Int) * 1440 + (l.getD k a0).minute) (m % 10080))), (9, .pointer (some ⟨ba, 0, none⟩)), (16, .slice S2 l.length c2), (17, .int .i64 (l.length : Int)), (18, .int .i64 (k : Int)), (22, .int .i64 ((d + 1 : Nat) : Int))]) (by kernel_rfl) ?_
     refine At.keep [0, 0, 0] (B := [Cells ba 30 [.int .i64 ((l.getD k a0).id), .int .i64 ((l.getD k a0).minute), .int .i64 ((l.getD k a0).days), .bool ((l.getD k a0).off)], Grow S2 c2 30 4 l.length (l.flatMap encA), SetC s l]) (D := []) rfl ?_
     exact ih (d + 1) _ (by omega) (by omega) (nI_yes hb rfl rfl (by assumption) (by omega)).symm
    ·have hx3 : best ≠ 0 := by simpa using hx3
     refine SOps.pures 5 (i' := 12) (m' := 0) (e' := [(47, .bool (decide ((waitA ((d : Int) * 1440 + (l.getD k a0).minute) (m % 10080)) < best))), (46, .bool (decide ((waitA ((d : Int) * 1440 + (l.getD k a0).minute) (m % 10080)) < best))), (45, .bool (decide ((waitA ((d : Int) * 1440 + (l.getD k a0).minute) (m % 10080)) < best))), (44, .int .i64 best), (43, .int .i64 (waitA ((d : Int) * 1440 + (l.getD k a0).minute) (m % 10080))), (42, .bool false), (41, .bool false), (40, .int .i64 best), (39, .bool true), (38, .bool true), (37, .int .i64 (((d : Int) * 1440) + ((l.getD k a0).minute))), (36, .agg #[.int .i64 ((l.getD k a0).id), .int .i64 ((l.getD k a0).minute), .int .i64 ((l.getD k a0).days), .bool ((l.getD k a0).off)]), (0, .pointer (some ⟨s, 0, none⟩)), (6, .int .i64 (m % 10080)), (7, .int .i64 best), (9, .pointer (some ⟨ba, 0, none⟩)), (11, .int .i64 (((d : Int) * 1440) + ((l.getD k a0).minute))), (12, .int .i64 (waitA ((d : Int) * 1440 + (l.getD k a0).minute) (m % 10080))), (16, .slice S2 l.length c2), (17, .int .i64 (l.length : Int)), (18, .int .i64 (k : Int)), (22, .int .i64 (d : Int))]) (by intro u; kernel_rfl) ?_
     refine SOps.nil (.inl rfl) ?_
     refine At.pick [0, 6, 7, 9, 12, 16, 17, 18, 22, 47] (e' := [(0, .pointer (some ⟨s, 0, none⟩)), (6, .int .i64 (m % 10080)), (7, .int .i64 best), (9, .pointer (some ⟨ba, 0, none⟩)), (12, .int .i64 (waitA ((d : Int) * 1440 + (l.getD k a0).minute) (m % 10080))), (16, .slice S2 l.length c2), (17, .int .i64 (l.length : Int)), (18, .int .i64 (k : Int)), (22, .int .i64 (d : Int)), (47, .bool (decide ((waitA ((d : Int) * 1440 + (l.getD k a0).minute) (m % 10080)) < best)))]) (by kernel_rfl) ?_
     refine At.split (fun zq => [(0, .pointer (some ⟨s, 0, none⟩)), (6, .int .i64 (m % 10080)), (7, .int .i64 best), (9, .pointer (some ⟨ba, 0, none⟩)), (12, .int .i64 (waitA ((d : Int) * 1440 + (l.getD k a0).minute) (m % 10080))), (16, .slice S2 l.length c2), (17, .int .i64 (l.length : Int)), (18, .int .i64 (k : Int)), (22, .int .i64 (d : Int)), (47, .bool zq)]) (decide ((waitA ((d : Int) * 1440 + (l.getD k a0).minute) (m % 10080)) < best)) (fun hx4 => ?_) (fun hx4 => ?_)
     ·have hx4 : (waitA ((d : Int) * 1440 + (l.getD k a0).minute) (m % 10080)) < best := by simpa using hx4
      refine At.cond 300 true (c := .tmp 47) (k1 := pt12_8) (k2 := pt12_9) (by kernel_rfl) (by intro u; kernel_rfl) (fun _ => ?_) (fun h => by cases h)
      refine At.pick [0, 6, 9, 12, 16, 17, 18, 22] (e' := [(0, .pointer (some ⟨s, 0, none⟩)), (6, .int .i64 (m % 10080)), (9, .pointer (some ⟨ba, 0, none⟩)), (12, .int .i64 (waitA ((d : Int) * 1440 + (l.getD k a0).minute) (m % 10080))), (16, .slice S2 l.length c2), (17, .int .i64 (l.length : Int)), (18, .int .i64 (k : Int)), (22, .int .i64 (d : Int))]) (by kernel_rfl) ?_
      refine At.region (ops := opt12_8) (m := 2) (k' := kt12_10) (by kernel_rfl) 300 (k'' := pt12_9) (by kernel_rfl) ?_
      refine SOps.pures 2 (i' := 2) (m' := 0) (e' := [(7, .int .i64 (waitA ((d : Int) * 1440 + (l.getD k a0).minute) (m % 10080))), (48, .int .i64 (waitA ((d : Int) * 1440 + (l.getD k a0).minute) (m % 10080))), (0, .pointer (some ⟨s, 0, none⟩)), (6, .int .i64 (m % 10080)), (9, .pointer (some ⟨ba, 0, none⟩)), (12, .int .i64 (waitA ((d : Int) * 1440 + (l.getD k a0).minute) (m % 10080))), (16, .slice S2 l.length c2), (17, .int .i64 (l.length : Int)), (18, .int .i64 (k : Int)), (22, .int .i64 (d : Int))]) (by intro u; kernel_rfl) ?_
      refine SOps.nil (.inl rfl) ?_
      refine At.pick [0, 6, 7, 9, 16, 17, 18, 22] (e' := [(0, .pointer (some ⟨s, 0, none⟩)), (6, .int .i64 (m % 10080)), (7, .int .i64 (waitA ((d : Int) * 1440 + (l.getD k a0).minute) (m % 10080))), (9, .pointer (some ⟨ba, 0, none⟩)), (16, .slice S2 l.length c2), (17, .int .i64 (l.length : Int)), (18, .int .i64 (k : Int)), (22, .int .i64 (d : Int))]) (by kernel_rfl) ?_
      refine At.region (ops := opt12_9) (m := 2) (k' := kt12_6) (by kernel_rfl) 300 (k'' := pt12_1) (by kernel_rfl) ?_
      refine SOps.v (Val.pe 49 (.int .i64 (IntKind.i64.wrap ((d : Int) + 1))) (.int .i64 ((d + 1 : Nat) : Int)) (by intro u; kernel_rfl) (i64_in (by omega) (by omega) (by omega))) ?_
      refine SOps.pures 1 (i' := 2) (m' := 0) (e' := [(22, .int .i64 ((d + 1 : Nat) : Int)), (49, .int .i64 ((d + 1 : Nat) : Int)), (0, .pointer (some ⟨s, 0, none⟩)), (6, .int .i64 (m % 10080)), (7, .int .i64 (waitA ((d : Int) * 1440 + (l.getD k a0).minute) (m % 10080))), (9, .pointer (some ⟨ba, 0, none⟩)), (16, .slice S2 l.length c2), (17, .int .i64 (l.length : Int)), (18, .int .i64 (k : Int)), (22, .int .i64 (d : Int))]) (by intro u; kernel_rfl) ?_
      refine SOps.nil (.inl rfl) ?_
      refine At.pick [0, 6, 7, 9, 16, 17, 18, 22] (e' := [(0, .pointer (some ⟨s, 0, none⟩)), (6, .int .i64 (m % 10080)), (7, .int .i64 (waitA ((d : Int) * 1440 + (l.getD k a0).minute) (m % 10080))), (9, .pointer (some ⟨ba, 0, none⟩)), (16, .slice S2 l.length c2), (17, .int .i64 (l.length : Int)), (18, .int .i64 (k : Int)), (22, .int .i64 ((d + 1 : Nat) : Int))]) (by kernel_rfl) ?_
      refine At.keep [0, 0, 0] (B := [Cells ba 30 [.int .i64 ((l.getD k a0).id), .int .i64 ((l.getD k a0).minute), .int .i64 ((l.getD k a0).days), .bool ((l.getD k a0).off)], Grow S2 c2 30 4 l.length (l.flatMap encA), SetC s l]) (D := []) rfl ?_
      exact ih (d + 1) _ (by omega) (by omega) (nI_yes hb rfl rfl (by assumption) (by omega)).symm
     ·have hx4 : (waitA ((d : Int) * 1440 + (l.getD k a0).minute) (m % 10080)) ≥ best := by simpa using hx4
      refine At.cond 300 false (c := .tmp 47) (k1 := pt12_8) (k2 := pt12_9) (by kernel_rfl) (by intro u; kernel_rfl) (fun h => by cases h) (fun _ => ?_)
      refine At.pick [0, 6, 7, 9, 16, 17, 18, 22] (e' := [(0, .pointer (some ⟨s, 0, none⟩)), (6, .int .i64 (m % 10080)), (7, .int .i64 best), (9, .pointer (some ⟨ba, 0, none⟩)), (16, .slice S2 l.length c2), (17, .int .i64 (l.length : Int)), (18, .int .i64 (k : Int)), (22, .int .i64 (d : Int))]) (by kernel_rfl) ?_
      refine At.region (ops := opt12_9) (m := 2) (k' := kt12_6) (by kernel_rfl) 300 (k'' := pt12_1) (by kernel_rfl) ?_
      refine SOps.v (Val.pe 49 (.int .i64 (IntKind.i64.wrap ((d : Int) + 1))) (.int .i64 ((d + 1 : Nat) : Int)) (by intro u; kernel_rfl) (i64_in (by omega) (by omega) (by omega))) ?_
      refine SOps.pures 1 (i' := 2) (m' := 0) (e' := [(22, .int .i64 ((d + 1 : Nat) : Int)), (49, .int .i64 ((d + 1 : Nat) : Int)), (0, .pointer (some ⟨s, 0, none⟩)), (6, .int .i64 (m % 10080)), (7, .int .i64 best), (9, .pointer (some ⟨ba, 0, none⟩)), (16, .slice S2 l.length c2), (17, .int .i64 (l.length : Int)), (18, .int .i64 (k : Int)), (22, .int .i64 (d : Int))]) (by intro u; kernel_rfl) ?_
      refine SOps.nil (.inl rfl) ?_
      refine At.pick [0, 6, 7, 9, 16, 17, 18, 22] (e' := [(0, .pointer (some ⟨s, 0, none⟩)), (6, .int .i64 (m % 10080)), (7, .int .i64 best), (9, .pointer (some ⟨ba, 0, none⟩)), (16, .slice S2 l.length c2), (17, .int .i64 (l.length : Int)), (18, .int .i64 (k : Int)), (22, .int .i64 ((d + 1 : Nat) : Int))]) (by kernel_rfl) ?_
      refine At.keep [0, 0, 0] (B := [Cells ba 30 [.int .i64 ((l.getD k a0).id), .int .i64 ((l.getD k a0).minute), .int .i64 ((l.getD k a0).days), .bool ((l.getD k a0).off)], Grow S2 c2 30 4 l.length (l.flatMap encA), SetC s l]) (D := []) rfl ?_
      exact ih (d + 1) _ (by omega) (by omega) (nI_no hb rfl rfl (by first | exact .inl (by assumption) | (right; omega))).symm
   ·have hx2 : (ringsA (l.getD k a0) (((d : Int) * 1440) + ((l.getD k a0).minute))) = false := by simpa using hx2
    refine SOps.pures 8 (i' := 12) (m' := 0) (e' := [(47, .bool false), (46, .tuple #[]), (45, .tuple #[]), (44, .tuple #[]), (43, .tuple #[]), (42, .tuple #[]), (41, .tuple #[]), (40, .tuple #[]), (39, .bool false), (38, .bool false), (37, .int .i64 (((d : Int) * 1440) + ((l.getD k a0).minute))), (36, .agg #[.int .i64 ((l.getD k a0).id), .int .i64 ((l.getD k a0).minute), .int .i64 ((l.getD k a0).days), .bool ((l.getD k a0).off)]), (0, .pointer (some ⟨s, 0, none⟩)), (6, .int .i64 (m % 10080)), (7, .int .i64 best), (9, .pointer (some ⟨ba, 0, none⟩)), (11, .int .i64 (((d : Int) * 1440) + ((l.getD k a0).minute))), (12, .int .i64 (waitA ((d : Int) * 1440 + (l.getD k a0).minute) (m % 10080))), (16, .slice S2 l.length c2), (17, .int .i64 (l.length : Int)), (18, .int .i64 (k : Int)), (22, .int .i64 (d : Int))]) (by intro u; kernel_rfl) ?_
    refine SOps.nil (.inl rfl) ?_
    refine At.pick [0, 6, 7, 9, 12, 16, 17, 18, 22, 47] (e' := [(0, .pointer (some ⟨s, 0, none⟩)), (6, .int .i64 (m % 10080)), (7, .int .i64 best), (9, .pointer (some ⟨ba, 0, none⟩)), (12, .int .i64 (waitA ((d : Int) * 1440 + (l.getD k a0).minute) (m % 10080))), (16, .slice S2 l.length c2), (17, .int .i64 (l.length : Int)), (18, .int .i64 (k : Int)), (22, .int .i64 (d : Int)), (47, .bool false)]) (by kernel_rfl) ?_
    refine At.cond 300 false (c := .tmp 47) (k1 := pt12_8) (k2 := pt12_9) (by kernel_rfl) (by intro u; kernel_rfl) (fun h => by cases h) (fun _ => ?_)
    refine At.pick [0, 6, 7, 9, 16, 17, 18, 22] (e' := [(0, .pointer (some ⟨s, 0, none⟩)), (6, .int .i64 (m % 10080)), (7, .int .i64 best), (9, .pointer (some ⟨ba, 0, none⟩)), (16, .slice S2 l.length c2), (17, .int .i64 (l.length : Int)), (18, .int .i64 (k : Int)), (22, .int .i64 (d : Int))]) (by kernel_rfl) ?_
    refine At.region (ops := opt12_9) (m := 2) (k' := kt12_6) (by kernel_rfl) 300 (k'' := pt12_1) (by kernel_rfl) ?_
    refine SOps.v (Val.pe 49 (.int .i64 (IntKind.i64.wrap ((d : Int) + 1))) (.int .i64 ((d + 1 : Nat) : Int)) (by intro u; kernel_rfl) (i64_in (by omega) (by omega) (by omega))) ?_
    refine SOps.pures 1 (i' := 2) (m' := 0) (e' := [(22, .int .i64 ((d + 1 : Nat) : Int)), (49, .int .i64 ((d + 1 : Nat) : Int)), (0, .pointer (some ⟨s, 0, none⟩)), (6, .int .i64 (m % 10080)), (7, .int .i64 best), (9, .pointer (some ⟨ba, 0, none⟩)), (16, .slice S2 l.length c2), (17, .int .i64 (l.length : Int)), (18, .int .i64 (k : Int)), (22, .int .i64 (d : Int))]) (by intro u; kernel_rfl) ?_
    refine SOps.nil (.inl rfl) ?_
    refine At.pick [0, 6, 7, 9, 16, 17, 18, 22] (e' := [(0, .pointer (some ⟨s, 0, none⟩)), (6, .int .i64 (m % 10080)), (7, .int .i64 best), (9, .pointer (some ⟨ba, 0, none⟩)), (16, .slice S2 l.length c2), (17, .int .i64 (l.length : Int)), (18, .int .i64 (k : Int)), (22, .int .i64 ((d + 1 : Nat) : Int))]) (by kernel_rfl) ?_
    refine At.keep [0, 0, 0] (B := [Cells ba 30 [.int .i64 ((l.getD k a0).id), .int .i64 ((l.getD k a0).minute), .int .i64 ((l.getD k a0).days), .bool ((l.getD k a0).off)], Grow S2 c2 30 4 l.length (l.flatMap encA), SetC s l]) (D := []) rfl ?_
    exact ih (d + 1) _ (by omega) (by omega) (nI_no hb rfl rfl (by first | exact .inl (by assumption) | (right; omega))).symm
  ·have hx1 : (d : Int) ≥ 7 := by simpa using hx1
   refine At.cond 300 false (c := .tmp 23) (k1 := pt12_3) (k2 := pt12_0) (by kernel_rfl) (by intro u; kernel_rfl) (fun h => by cases h) (fun _ => ?_)
   refine At.pick [0, 6, 7, 16, 17, 18] (e' := [(0, .pointer (some ⟨s, 0, none⟩)), (6, .int .i64 (m % 10080)), (7, .int .i64 best), (16, .slice S2 l.length c2), (17, .int .i64 (l.length : Int)), (18, .int .i64 (k : Int))]) (by kernel_rfl) ?_
   refine At.keep [1, 1] (B := [Grow S2 c2 30 4 l.length (l.flatMap encA), SetC s l]) (D := [Cells ba 30 [.int .i64 ((l.getD k a0).id), .int .i64 ((l.getD k a0).minute), .int .i64 ((l.getD k a0).days), .bool ((l.getD k a0).off)]]) rfl ?_
   obtain rfl : d = 7 := by omega
   exact hK best hb.symm
theorem next_outer (s : Nat) (l : List Alarm) (hg : GoodA l) (m : Int) (S2 : Option Addr) (c2 : Nat) : ∀ (mm k : Nat) (best : Int), l.length - k < mm → k ≤ l.length → best = nO l (m % 10080) k → At ⟨Try.prog, 12, (fun v' => ex fun x : Option Addr × Nat => fact (v' = .tuple #[.int .i64 (nextN l m), .slice x.1 (nextR l m).length x.2]) :: fact True :: [Grow x.1 x.2 3 1 (nextR l m).length (ints (nextR l m)), SetC s l]), 59, false⟩ pt12_10 [(0, .pointer (some ⟨s, 0, none⟩)), (6, .int .i64 (m % 10080)), (7, .int .i64 best), (16, .slice S2 l.length c2), (17, .int .i64 (l.length : Int)), (18, .int .i64 (k : Int))] [Grow S2 c2 30 4 l.length (l.flatMap encA), SetC s l] := by
 have hlen := hg.len
 intro mm
 induction mm with
 | zero => intro k best h; omega
 | succ mm ih =>
  intro k best hm hk hb
  have hbr := nO_range (l := l) (at_ := m % 10080) k
  rw [← hb] at hbr
  refine At.region (ops := opt12_10) (m := 1) (k' := kt12_15) (by kernel_rfl) 300 (k'' := pt12_11) (by kernel_rfl) ?_
  refine SOps.pures 1 (i' := 1) (m' := 0) (e' := [(19, .bool (decide ((k : Int) < (l.length : Int)))), (0, .pointer (some ⟨s, 0, none⟩)), (6, .int .i64 (m % 10080)), (7, .int .i64 best), (16, .slice S2 l.length c2), (17, .int .i64 (l.length : Int)), (18, .int .i64 (k : Int))]) (by intro u; kernel_rfl) ?_
  refine SOps.nil (.inl rfl) ?_
  refine At.pick [0, 6, 7, 16, 17, 18, 19] (e' := [(0, .pointer (some ⟨s, 0, none⟩)), (6, .int .i64 (m % 10080)), (7, .int .i64 best), (16, .slice S2 l.length c2), (17, .int .i64 (l.length : Int)), (18, .int .i64 (k : Int)), (19, .bool (decide ((k : Int) < (l.length : Int))))]) (by kernel_rfl) ?_
  refine At.split (fun zq => [(0, .pointer (some ⟨s, 0, none⟩)), (6, .int .i64 (m % 10080)), (7, .int .i64 best), (16, .slice S2 l.length c2), (17, .int .i64 (l.length : Int)), (18, .int .i64 (k : Int)), (19, .bool zq)]) (decide ((k : Int) < (l.length : Int))) (fun hx1 => ?_) (fun hx1 => ?_)
  ·have hx1 : (k : Int) < (l.length : Int) := by simpa using hx1
   refine At.cond 300 true (c := .tmp 19) (k1 := pt12_12) (k2 := pt12_13) (by kernel_rfl) (by intro u; kernel_rfl) (fun _ => ?_) (fun h => by cases h)
   refine At.pick [0, 6, 7, 16, 17, 18] (e' := [(0, .pointer (some ⟨s, 0, none⟩)), (6, .int .i64 (m % 10080)), (7, .int .i64 best), (16, .slice S2 l.length c2), (17, .int .i64 (l.length : Int)), (18, .int .i64 (k : Int))]) (by kernel_rfl) ?_
   refine At.region (ops := opt12_12) (m := 4) (k' := kt12_17) (by kernel_rfl) 300 (k'' := pt12_14) (by kernel_rfl) ?_
   refine SOps.learn (fun F w ho => Grow.some (j := 0) ho rfl) (fun hS2 => ?_)
   refine SOps.v (Val.pv 20 (vN (Instr.indexAt 25 (.slice S2 l.length c2) (.int .i64 (k : Int)))) (.pointer (some ⟨(blk S2), k * 4, none⟩)) (by intro u; kernel_rfl) (pv_indexO (el := 30) (sz := 4) (by kernel_rfl) (by kernel_rfl) (by omega) (by omega) (hS2.1 (by omega)) (by omega))) ?_
   refine SOps.v (Val.ldN 0 21 30 (blk S2) (k * 4) 4 [.int .i64 ((l.getD k a0).id), .int .i64 ((l.getD k a0).minute), .int .i64 ((l.getD k a0).days), .bool ((l.getD k a0).off)] rfl (by intro u; kernel_rfl) (by kernel_rfl) (by kernel_rfl) rfl ⟨(Rd.grow (flat_get encA 4 (fun _ => rfl) l k 0 (l.getD k a0) _ (getD_some (by omega)) rfl)), (Rd.grow (flat_get encA 4 (fun _ => rfl) l k 1 (l.getD k a0) _ (getD_some (by omega)) rfl)), (Rd.grow (flat_get encA 4 (fun _ => rfl) l k 2 (l.getD k a0) _ (getD_some (by omega)) rfl)), (Rd.grow (flat_get encA 4 (fun _ => rfl) l k 3 (l.getD k a0) _ (getD_some (by omega)) rfl)), trivial⟩) ?_
   refine SOps.o (Op.new 9 30 [.int .i64 0, .int .i64 0, .int .i64 0, .bool false] (fun b => .pointer (some ⟨b, 0, none⟩)) (by intro u b; kernel_rfl) ?_)
   intro bx2
   refine SOps.o (Op.st 0 30 bx2 0 (.agg #[.int .i64 ((l.getD k a0).id), .int .i64 ((l.getD k a0).minute), .int .i64 ((l.getD k a0).days), .bool ((l.getD k a0).off)]) [.int .i64 ((l.getD k a0).id), .int .i64 ((l.getD k a0).minute), .int .i64 ((l.getD k a0).days), .bool ((l.getD k a0).off)] 4 (B' := Cells bx2 30 [.int .i64 ((l.getD k a0).id), .int .i64 ((l.getD k a0).minute), .int .i64 ((l.getD k a0).days), .bool ((l.getD k a0).off)]) (A' := [Cells bx2 30 [.int .i64 ((l.getD k a0).id), .int .i64 ((l.getD k a0).minute), .int .i64 ((l.getD k a0).days), .bool ((l.getD k a0).off)], Grow S2 c2 30 4 l.length (l.flatMap encA), SetC s l]) rfl (by intro u; kernel_rfl) rfl (by kernel_rfl) rfl rfl (Wr.cells rfl rfl) rfl ?_)
   refine SOps.nil (.inl rfl) ?_
   refine At.pick [0, 6, 7, 9, 16, 17, 18] (e' := [(0, .pointer (some ⟨s, 0, none⟩)), (6, .int .i64 (m % 10080)), (7, .int .i64 best), (9, .pointer (some ⟨bx2, 0, none⟩)), (16, .slice S2 l.length c2), (17, .int .i64 (l.length : Int)), (18, .int .i64 (k : Int))]) (by kernel_rfl) ?_
   refine At.region (ops := opt12_14) (m := 1) (k' := kt12_20) (by kernel_rfl) 300 (k'' := pt12_1) (by kernel_rfl) ?_
   refine SOps.pures 1 (i' := 1) (m' := 0) (e' := [(22, .int .i64 0), (0, .pointer (some ⟨s, 0, none⟩)), (6, .int .i64 (m % 10080)), (7, .int .i64 best), (9, .pointer (some ⟨bx2, 0, none⟩)), (16, .slice S2 l.length c2), (17, .int .i64 (l.length : Int)), (18, .int .i64 (k : Int))]) (by intro u; kernel_rfl) ?_
   refine SOps.nil (.inl rfl) ?_
   refine At.pick [0, 6, 7, 9, 16, 17, 18, 22] (e' := [(0, .pointer (some ⟨s, 0, none⟩)), (6, .int .i64 (m % 10080)), (7, .int .i64 best), (9, .pointer (some ⟨bx2, 0, none⟩)), (16, .slice S2 l.length c2), (17, .int .i64 (l.length : Int)), (18, .int .i64 (k : Int)), (22, .int .i64 0)]) (by kernel_rfl) ?_
   refine At.keep [0, 0, 0] (B := [Cells bx2 30 [.int .i64 ((l.getD k a0).id), .int .i64 ((l.getD k a0).minute), .int .i64 ((l.getD k a0).days), .bool ((l.getD k a0).off)], Grow S2 c2 30 4 l.length (l.flatMap encA), SetC s l]) (D := []) rfl ?_
   refine next_inner s l hg m S2 c2 bx2 k (by omega) ?_ 8 0 best (by omega) (by omega) (by rw [hb]; rfl)
   intro best2 hbK
   refine At.region (ops := opt12_0) (m := 2) (k' := kt12_2) (by kernel_rfl) 300 (k'' := pt12_10) (by kernel_rfl) ?_
   refine SOps.v (Val.pe 50 (.int .i64 (IntKind.i64.wrap ((k : Int) + 1))) (.int .i64 ((k + 1 : Nat) : Int)) (by intro u; kernel_rfl) (i64_in (by omega) (by omega) (by omega))) ?_
   refine SOps.pures 1 (i' := 2) (m' := 0) (e' := [(18, .int .i64 ((k + 1 : Nat) : Int)), (50, .int .i64 ((k + 1 : Nat) : Int)), (0, .pointer (some ⟨s, 0, none⟩)), (6, .int .i64 (m % 10080)), (7, .int .i64 best2), (16, .slice S2 l.length c2), (17, .int .i64 (l.length : Int)), (18, .int .i64 (k : Int))]) (by intro u; kernel_rfl) ?_
   refine SOps.nil (.inl rfl) ?_
   refine At.pick [0, 6, 7, 16, 17, 18] (e' := [(0, .pointer (some ⟨s, 0, none⟩)), (6, .int .i64 (m % 10080)), (7, .int .i64 best2), (16, .slice S2 l.length c2), (17, .int .i64 (l.length : Int)), (18, .int .i64 ((k + 1 : Nat) : Int))]) (by kernel_rfl) ?_
   refine At.keep [0, 0] (B := [Grow S2 c2 30 4 l.length (l.flatMap encA), SetC s l]) (D := []) rfl ?_
   exact ih (k + 1) _ (by omega) (by omega) hbK
  ·have hx1 : (k : Int) ≥ (l.length : Int) := by simpa using hx1
   refine At.cond 300 false (c := .tmp 19) (k1 := pt12_12) (k2 := pt12_13) (by kernel_rfl) (by intro u; kernel_rfl) (fun h => by cases h) (fun _ => ?_)
   refine At.pick [0, 6, 7] (e' := [(0, .pointer (some ⟨s, 0, none⟩)), (6, .int .i64 (m % 10080)), (7, .int .i64 best)]) (by kernel_rfl) ?_
   refine At.region (ops := opt12_13) (m := 2) (k' := kt12_19) (by kernel_rfl) 300 (k'' := pt12_15) (by kernel_rfl) ?_
   refine SOps.pures 2 (i' := 2) (m' := 0) (e' := [(52, .bool (best == 0)), (51, .int .i64 best), (0, .pointer (some ⟨s, 0, none⟩)), (6, .int .i64 (m % 10080)), (7, .int .i64 best)]) (by intro u; kernel_rfl) ?_
   refine SOps.nil (.inl rfl) ?_
   refine At.pick [0, 6, 7, 52] (e' := [(0, .pointer (some ⟨s, 0, none⟩)), (6, .int .i64 (m % 10080)), (7, .int .i64 best), (52, .bool (best == 0))]) (by kernel_rfl) ?_
   refine At.split (fun zq => [(0, .pointer (some ⟨s, 0, none⟩)), (6, .int .i64 (m % 10080)), (7, .int .i64 best), (52, .bool zq)]) ((best == 0)) (fun hx2 => ?_) (fun hx2 => ?_)
   ·have hx2 : best = 0 := by simpa using hx2
    refine At.cond 300 true (c := .tmp 52) (k1 := pt12_16) (k2 := pt12_17) (by kernel_rfl) (by intro u; kernel_rfl) (fun _ => ?_) (fun h => by cases h)
    refine At.pick [] (e' := []) (by kernel_rfl) ?_
    refine At.region (ops := opt12_16) (m := 2) (k' := kt12_21) (by kernel_rfl) 300 (k'' := pt12_18) (by kernel_rfl) ?_
    refine SOps.pures 2 (i' := 2) (m' := 0) (e' := [(5, .slice none 0 0), (4, .int .i64 0)]) (by intro u; kernel_rfl) ?_
    refine SOps.nil (.inl rfl) ?_
    refine At.pick [4, 5] (e' := [(4, .int .i64 0), (5, .slice none 0 0)]) (by kernel_rfl) ?_
    refine At.ret2 (fn := Try.f12) (v := .int .i64 0) (u := .slice none 0 0) (t := 4) (s := 5) (by kernel_rfl) Try.func12 (by kernel_rfl) (by kernel_rfl) (by kernel_rfl) (fun F w ho => ?_)
    have hN : nextN l m = best := by rw [hb]; unfold nextN; congr 1; omega
    have hR : nextR l m = [] := by unfold nextR; rw [hN, if_pos (by omega)]
    have ho' := Grow.nil_ 3 1 ho
    rw [hN, hR]
    exact shutX (p := fun _ => True) (Option.none, 0) (by first | rfl | (congr 2; simp [*]; done) | (rw [show best = 0 by omega]; rfl)) trivial [0, 1] rfl ho'
   ·have hx2 : best ≠ 0 := by simpa using hx2
    refine At.cond 300 false (c := .tmp 52) (k1 := pt12_16) (k2 := pt12_17) (by kernel_rfl) (by intro u; kernel_rfl) (fun h => by cases h) (fun _ => ?_)
    refine At.pick [0, 6, 7] (e' := [(0, .pointer (some ⟨s, 0, none⟩)), (6, .int .i64 (m % 10080)), (7, .int .i64 best)]) (by kernel_rfl) ?_
    refine At.region (ops := opt12_17) (m := 8) (k' := kt12_22) (by kernel_rfl) 300 (k'' := pt12_19) (by kernel_rfl) ?_
    refine SOps.pures 4 (i' := 4) (m' := 4) (e' := [(56, .int .i64 best), (55, .int .i64 (m % 10080)), (54, .pointer (some ⟨s, 0, none⟩)), (53, .int .i64 best), (0, .pointer (some ⟨s, 0, none⟩)), (6, .int .i64 (m % 10080)), (7, .int .i64 best)]) (by intro u; kernel_rfl) ?_
    refine SOps.v (Val.pe 57 (.int .i64 (IntKind.i64.wrap ((m % 10080) + best))) (.int .i64 ((m % 10080) + best)) (by intro u; kernel_rfl) (i64_in rfl (by omega) (by omega))) ?_
    refine SOps.o (Op.callX 58 10 #[.pointer (some ⟨s, 0, none⟩), .int .i64 ((m % 10080) + best)] _ _ [1] (B := [SetC s l]) (D := [Grow S2 c2 30 4 l.length (l.flatMap encA)]) (by intro u; kernel_rfl) (ringsS s l hg ((m % 10080) + best)) (by first | exact .inr rfl | exact .inl rfl) (by kernel_rfl) ?_)
    rintro ⟨Sx3, cx4⟩ -
    refine SOps.pures 2 (i' := 8) (m' := 0) (e' := [(5, .slice Sx3 ((ringsL l ((m % 10080) + best)).length) cx4), (4, .int .i64 best), (58, .slice Sx3 ((ringsL l ((m % 10080) + best)).length) cx4), (57, .int .i64 ((m % 10080) + best)), (56, .int .i64 best), (55, .int .i64 (m % 10080)), (54, .pointer (some ⟨s, 0, none⟩)), (53, .int .i64 best), (0, .pointer (some ⟨s, 0, none⟩)), (6, .int .i64 (m % 10080)), (7, .int .i64 best)]) (by intro u; kernel_rfl) ?_
    refine SOps.nil (.inl rfl) ?_
    refine At.pick [4, 5] (e' := [(4, .int .i64 best), (5, .slice Sx3 ((ringsL l ((m % 10080) + best)).length) cx4)]) (by kernel_rfl) ?_
    refine At.ret2 (fn := Try.f12) (v := .int .i64 best) (u := .slice Sx3 ((ringsL l ((m % 10080) + best)).length) cx4) (t := 4) (s := 5) (by kernel_rfl) Try.func12 (by kernel_rfl) (by kernel_rfl) (by kernel_rfl) (fun F w ho => ?_)
    have hN : nextN l m = best := by rw [hb]; unfold nextN; congr 1; omega
    have hR : nextR l m = ringsL l (m % 10080 + best) := by unfold nextR; rw [hN, if_neg (by omega)]
    rw [hN, hR]
    exact shutX (p := fun _ => True) (Sx3, cx4) rfl trivial [0, 0] rfl ho
theorem nextS (s : Nat) (l : List Alarm) (hg : GoodA l) (m : Int) : Ctr Try.prog 12 #[.pointer (some ⟨s, 0, none⟩), .int .i64 m] [SetC s l] (fun v' => ex fun x : Option Addr × Nat => fact (v' = .tuple #[.int .i64 (nextN l m), .slice x.1 (nextR l m).length x.2]) :: fact True :: [Grow x.1 x.2 3 1 (nextR l m).length (ints (nextR l m)), SetC s l]) false := by
 refine spec_of_at (fn := Try.f12) (c := bd12) (args := [.pointer (some ⟨s, 0, none⟩), .int .i64 m]) (n := 59) (e := [(0, .pointer (some ⟨s, 0, none⟩)), (1, .int .i64 m)]) (k := pt12_20) Try.func12 (by kernel_rfl) (by kernel_rfl) (by kernel_rfl) (by kernel_rfl) 300 (by kernel_rfl) ?_
 have hlen := hg.len
 refine At.region (ops := opt12_20) (m := 2) (k' := kt12_23) (by kernel_rfl) 300 (k'' := pt12_21) (by kernel_rfl) ?_
 refine SOps.pures 2 (i' := 2) (m' := 0) (e' := [(5, .slice none 0 0), (4, .int .i64 0), (0, .pointer (some ⟨s, 0, none⟩)), (1, .int .i64 m)]) (by intro u; kernel_rfl) ?_
 refine SOps.nil (.inl rfl) ?_
 refine At.pick [0, 1] (e' := [(0, .pointer (some ⟨s, 0, none⟩)), (1, .int .i64 m)]) (by kernel_rfl) ?_
 refine At.region (ops := opt12_21) (m := 3) (k' := kt12_24) (by kernel_rfl) 300 (k'' := pt12_22) (by kernel_rfl) ?_
 refine SOps.pures 1 (i' := 1) (m' := 2) (e' := [(13, .int .i64 m), (0, .pointer (some ⟨s, 0, none⟩)), (1, .int .i64 m)]) (by intro u; kernel_rfl) ?_
 refine SOps.o (Op.callS 14 20 #[.int .i64 m] (.int .i64 (m % 10080)) [] (B := []) (D := [SetC s l]) (by intro u; kernel_rfl) (within m) (by first | exact .inr rfl | exact .inl rfl) (by kernel_rfl) ?_)
 refine SOps.pures 1 (i' := 3) (m' := 0) (e' := [(6, .int .i64 (m % 10080)), (14, .int .i64 (m % 10080)), (13, .int .i64 m), (0, .pointer (some ⟨s, 0, none⟩)), (1, .int .i64 m)]) (by intro u; kernel_rfl) ?_
 refine SOps.nil (.inl rfl) ?_
 refine At.pick [0, 6] (e' := [(0, .pointer (some ⟨s, 0, none⟩)), (6, .int .i64 (m % 10080))]) (by kernel_rfl) ?_
 refine At.region (ops := opt12_22) (m := 1) (k' := kt12_25) (by kernel_rfl) 300 (k'' := pt12_23) (by kernel_rfl) ?_
 refine SOps.pures 1 (i' := 1) (m' := 0) (e' := [(7, .int .i64 0), (0, .pointer (some ⟨s, 0, none⟩)), (6, .int .i64 (m % 10080))]) (by intro u; kernel_rfl) ?_
 refine SOps.nil (.inl rfl) ?_
 refine At.pick [0, 6, 7] (e' := [(0, .pointer (some ⟨s, 0, none⟩)), (6, .int .i64 (m % 10080)), (7, .int .i64 0)]) (by kernel_rfl) ?_
 refine At.region (ops := opt12_23) (m := 4) (k' := kt12_26) (by kernel_rfl) 300 (k'' := pt12_10) (by kernel_rfl) ?_
 refine SOps.pures 1 (i' := 1) (m' := 3) (e' := [(15, .pointer (some ⟨s, 0, none⟩)), (0, .pointer (some ⟨s, 0, none⟩)), (6, .int .i64 (m % 10080)), (7, .int .i64 0)]) (by intro u; kernel_rfl) ?_
 refine SOps.o (Op.callX 16 8 #[.pointer (some ⟨s, 0, none⟩)] _ _ [0] (B := [SetC s l]) (D := []) (by intro u; kernel_rfl) (allS s l hg) (by first | exact .inr rfl | exact .inl rfl) (by kernel_rfl) ?_)
 rintro ⟨Sx1, cx2⟩ -
 refine SOps.pures 2 (i' := 4) (m' := 0) (e' := [(18, .int .i64 0), (17, .int .i64 ((l.length : Nat) : Int)), (16, .slice Sx1 l.length cx2), (15, .pointer (some ⟨s, 0, none⟩)), (0, .pointer (some ⟨s, 0, none⟩)), (6, .int .i64 (m % 10080)), (7, .int .i64 0)]) (by intro u; kernel_rfl) ?_
 refine SOps.nil (.inl rfl) ?_
 refine At.pick [0, 6, 7, 16, 17, 18] (e' := [(0, .pointer (some ⟨s, 0, none⟩)), (6, .int .i64 (m % 10080)), (7, .int .i64 0), (16, .slice Sx1 l.length cx2), (17, .int .i64 ((l.length : Nat) : Int)), (18, .int .i64 0)]) (by kernel_rfl) ?_
 refine At.keep [0, 0] (B := [Grow Sx1 cx2 30 4 l.length (l.flatMap encA), SetC s l]) (D := []) rfl ?_
 exact next_outer s l hg m Sx1 cx2 (l.length + 1) 0 0 (by omega) (by omega) rfl
end Go.Proofs.Wk
