/- Deadline: a play of ticks. -/
import Derived.Test.YtcndjkjlgdidoaaDlC
namespace Go.Proofs.Dl
open Go Go.Sp Go.Dl
set_option linter.unusedVariables false
set_option linter.unusedSimpArgs false
set_option linter.unnecessarySimpa false
set_option maxRecDepth 100000
noncomputable def bd7 : Code := (Try.f7.body).getD .skip
noncomputable def kt7_0 : List Item := .code (pick [1] bd7) :: []
noncomputable def pt7_0 : List Item := .code (pick [0] bd7) :: kt7_0
noncomputable def opt7_0 : Array Oper := opsOf (pick [0] bd7)
noncomputable def kt7_1 : List Item := .code (pick [1, 1] bd7) :: []
noncomputable def kt7_2 : List Item := .code (pick [1, 0, 1] bd7) :: kt7_1
noncomputable def pt7_1 : List Item := .code (pick [1, 0, 0] bd7) :: kt7_2
noncomputable def opt7_1 : Array Oper := opsOf (pick [1, 0, 0] bd7)
noncomputable def pt7_2 : List Item := .code (pick [1, 0, 1] bd7) :: kt7_1
noncomputable def kt7_3 : List Item := .code (pick [1, 0, 1, 0, 1] bd7) :: kt7_1
noncomputable def pt7_3 : List Item := .code (pick [1, 0, 1, 0, 0] bd7) :: kt7_3
noncomputable def opt7_3 : Array Oper := opsOf (pick [1, 0, 1, 0, 0] bd7)
noncomputable def kt7_4 : List Item := .code (pick [1, 1, 1] bd7) :: []
noncomputable def pt7_4 : List Item := .code (pick [1, 1, 0] bd7) :: kt7_4
noncomputable def opt7_4 : Array Oper := opsOf (pick [1, 1, 0] bd7)
noncomputable def pt7_5 : List Item := .code (pick [1, 0, 1, 0, 1] bd7) :: kt7_1
noncomputable def kt7_5 : List Item := .code (pick [1, 1, 1, 1] bd7) :: []
noncomputable def kt7_6 : List Item := .inBlock 0 :: kt7_5
noncomputable def kt7_7 : List Item := .inLoop (pick [1, 1, 1, 0, 1, 0, 0] bd7) :: kt7_6
noncomputable def kt7_8 : List Item := .code (pick [1, 1, 1, 0, 1, 0, 0, 1] bd7) :: kt7_7
noncomputable def pt7_6 : List Item := .code (pick [1, 1, 1, 0, 1, 0, 0, 0] bd7) :: kt7_8
noncomputable def opt7_6 : Array Oper := opsOf (pick [1, 1, 1, 0, 1, 0, 0, 0] bd7)
noncomputable def kt7_9 : List Item := .code (pick [1, 1, 1, 0, 1, 0, 0, 1, 1] bd7) :: kt7_7
noncomputable def pt7_7 : List Item := .code (pick [1, 1, 1, 0, 1, 0, 0, 1, 0] bd7) :: kt7_9
noncomputable def kt7_10 : List Item := .code (pick [1, 1, 1, 0, 1, 0, 0, 1, 1, 1] bd7) :: kt7_7
noncomputable def kt7_11 : List Item := .inBlock 1 :: kt7_10
noncomputable def kt7_12 : List Item := .code (pick [1, 1, 1, 0, 1, 0, 0, 1, 1, 0, 0, 1] bd7) :: kt7_11
noncomputable def pt7_8 : List Item := .code (pick [1, 1, 1, 0, 1, 0, 0, 1, 1, 0, 0, 0] bd7) :: kt7_12
noncomputable def opt7_8 : Array Oper := opsOf (pick [1, 1, 1, 0, 1, 0, 0, 1, 1, 0, 0, 0] bd7)
noncomputable def kt7_13 : List Item := .code (pick [1, 1, 1, 1, 1] bd7) :: []
noncomputable def pt7_9 : List Item := .code (pick [1, 1, 1, 1, 0] bd7) :: kt7_13
noncomputable def opt7_9 : Array Oper := opsOf (pick [1, 1, 1, 1, 0] bd7)
noncomputable def pt7_10 : List Item := .code (pick [1, 1, 1, 0, 1, 0, 0, 1, 1, 0, 0, 1] bd7) :: kt7_11
noncomputable def opt7_10 : Array Oper := opsOf (pick [1, 1, 1, 0, 1, 0, 0, 1, 1, 0, 0, 1] bd7)
noncomputable def pt7_11 : List Item := .code (pick [1, 1, 1, 0, 1, 0, 0, 1, 1, 1] bd7) :: kt7_7
noncomputable def opt7_11 : Array Oper := opsOf (pick [1, 1, 1, 0, 1, 0, 0, 1, 1, 1] bd7)
noncomputable def pt7_12 : List Item := .code (pick [1, 1, 1, 1, 1] bd7) :: []
noncomputable def kt7_14 : List Item := .code (pick [1, 1, 1, 0, 1] bd7) :: kt7_5
noncomputable def pt7_13 : List Item := .code (pick [1, 1, 1, 0, 0] bd7) :: kt7_14
noncomputable def opt7_13 : Array Oper := opsOf (pick [1, 1, 1, 0, 0] bd7)
theorem play_no (B : Asn) (A : Option Addr) (l : List Task) (n c0 : Nat) (hl : l.length = n) (hB : InB B A (tasks l)) (hA : 0 < n → A = some ⟨blk A, ofs A, none⟩) (hn : n ≤ 1000000) (a : Int) (hR : rightB l = false) : Ctr Try.prog 7 #[.slice A n c0, .int .i64 a] [B] (fun v' => star (fact (v' = .agg #[.slice none 0 0, .slice none 0 0, .int .i64 0]) :: [B])) false := by
 refine spec_of_at (fn := Try.f7) (c := bd7) (args := [.slice A n c0, .int .i64 a]) (n := 38) (e := [(0, .slice A n c0), (1, .int .i64 a)]) (k := pt7_0) Try.func7 (by kernel_rfl) (by kernel_rfl) (by kernel_rfl) (by kernel_rfl) 300 (by kernel_rfl) ?_
 refine At.region (ops := opt7_0) (m := 1) (k' := kt7_0) (by kernel_rfl) 300 (k'' := pt7_1) (by kernel_rfl) ?_
 refine SOps.o (Op.new 4 26 [.slice none 0 0, .slice none 0 0, .int .i64 0] (fun b => .pointer (some ⟨b, 0, none⟩)) (by intro u b; kernel_rfl) ?_)
 intro bx1
 refine SOps.nil (.inl rfl) ?_
 refine At.pick [0, 1, 4] (e' := [(0, .slice A n c0), (1, .int .i64 a), (4, .pointer (some ⟨bx1, 0, none⟩))]) (by kernel_rfl) ?_
 refine At.region (ops := opt7_1) (m := 3) (k' := kt7_2) (by kernel_rfl) 300 (k'' := pt7_2) (by kernel_rfl) ?_
 refine SOps.pures 1 (i' := 1) (m' := 2) (e' := [(7, .slice A n c0), (0, .slice A n c0), (1, .int .i64 a), (4, .pointer (some ⟨bx1, 0, none⟩))]) (by intro u; kernel_rfl) ?_
 refine SOps.o (Op.callS 8 8 #[.slice A n c0] (.bool (rightB l)) [1] (B := [B]) (D := [Cells bx1 26 [.slice none 0 0, .slice none 0 0, .int .i64 0]]) (by intro u; kernel_rfl) (right8 B A l n c0 hl hB hA hn) (by first | exact .inr rfl | exact .inl rfl) (by kernel_rfl) ?_)
 refine SOps.pures 1 (i' := 3) (m' := 0) (e' := [(9, .bool (!(rightB l))), (8, .bool (rightB l)), (7, .slice A n c0), (0, .slice A n c0), (1, .int .i64 a), (4, .pointer (some ⟨bx1, 0, none⟩))]) (by intro u; kernel_rfl) ?_
 refine SOps.nil (.inl rfl) ?_
 refine At.pick [0, 1, 4, 9] (e' := [(0, .slice A n c0), (1, .int .i64 a), (4, .pointer (some ⟨bx1, 0, none⟩)), (9, .bool (!(rightB l)))]) (by kernel_rfl) ?_
 refine At.split (fun zq => [(0, .slice A n c0), (1, .int .i64 a), (4, .pointer (some ⟨bx1, 0, none⟩)), (9, .bool zq)]) (!(rightB l)) (fun hx2 => ?_) (fun hx2 => ?_)
 ·refine At.cond 300 true (c := .tmp 9) (k1 := pt7_3) (k2 := pt7_4) (by kernel_rfl) (by intro u; kernel_rfl) (fun _ => ?_) (fun h => by cases h)
  refine At.pick [4] (e' := [(4, .pointer (some ⟨bx1, 0, none⟩))]) (by kernel_rfl) ?_
  refine At.region (ops := opt7_3) (m := 2) (k' := kt7_3) (by kernel_rfl) 300 (k'' := pt7_5) (by kernel_rfl) ?_
  refine SOps.pures 1 (i' := 1) (m' := 1) (e' := [(10, .agg #[.slice none 0 0, .slice none 0 0, .int .i64 0]), (4, .pointer (some ⟨bx1, 0, none⟩))]) (by intro u; kernel_rfl) ?_
  refine SOps.o (Op.st 1 26 bx1 0 (.agg #[.slice none 0 0, .slice none 0 0, .int .i64 0]) [.slice none 0 0, .slice none 0 0, .int .i64 0] 3 (B' := Cells bx1 26 [.slice none 0 0, .slice none 0 0, .int .i64 0]) (A' := [B, Cells bx1 26 [.slice none 0 0, .slice none 0 0, .int .i64 0]]) rfl (by intro u; kernel_rfl) rfl (by kernel_rfl) rfl rfl (Wr.cells rfl rfl) rfl ?_)
  refine SOps.nil (.inl rfl) ?_
  refine At.pick [4] (e' := [(4, .pointer (some ⟨bx1, 0, none⟩))]) (by kernel_rfl) ?_
  refine At.retC 1 (fn := Try.f7) (v := .agg #[.slice none 0 0, .slice none 0 0, .int .i64 0]) (a := 4) (ty := 26) (b := bx1) (o := 0) (n := 3) (vs := [.slice none 0 0, .slice none 0 0, .int .i64 0]) (by kernel_rfl) Try.func7 (by kernel_rfl) (by kernel_rfl) rfl (by kernel_rfl) (by kernel_rfl) rfl ⟨(Rd.cells rfl), (Rd.cells rfl), (Rd.cells rfl), trivial⟩ rfl (fun F w ho => ?_)
  exact shutS [0] rfl ho
 ·rw [hR] at hx2; cases hx2
theorem play_loop (B : Asn) (A : Option Addr) (l : List Task) (n c0 : Nat) (hl : l.length = n) (hB : InB B A (tasks l)) (hA : 0 < n → A = some ⟨blk A, ofs A, none⟩) (hn : n ≤ 1000000) (a : Int) (hR : rightB l = true) (s : St) (hs : runR l n (ticksOf a) = s) (rb g gl gd gm : Nat) (hcc : ∀ i, i < n → 0 ≤ (l.getD i t0).c ∧ (l.getD i t0).c ≤ 1000) (htk : ticksOf a ≤ 20000) : ∀ (m k : Nat) (S : Option Addr) (cs : Nat), ticksOf a - k < m → k ≤ ticksOf a → At ⟨Try.prog, 7, (fun v' => ex fun x : Option Addr × Nat × Nat => fact (v' = .agg #[.slice x.1 s.did.length x.2.1, .slice (some ⟨x.2.2, 0, none⟩) n n, .int .i64 s.idle]) :: fact True :: ([Grow x.1 x.2.1 3 1 s.did.length (ints s.did), Grow (some ⟨x.2.2, 0, none⟩) n 3 1 n (ints s.mis), B] : List Asn)), 38, false⟩ pt7_6 [(4, .pointer (some ⟨rb, 0, none⟩)), (5, .pointer (some ⟨g, 0, none⟩)), (26, .int .i64 ((ticksOf a : Nat) : Int)), (27, .int .i64 (k : Int))] [Cells rb 26 [.slice none 0 0, .slice none 0 0, .int .i64 0], Cells g 43 [.slice A n c0, .slice (some ⟨gl, 0, none⟩) n n, .slice (some ⟨gd, 0, none⟩) n n, .slice S ((runR l n k).did.length) cs, .slice (some ⟨gm, 0, none⟩) n n, .int .i64 ((runR l n k).idle)], Grow (some ⟨gl, 0, none⟩) n 3 1 n (ints ((runR l n k).left)), Grow (some ⟨gd, 0, none⟩) n 3 1 n (ints ((runR l n k).dl)), Grow (some ⟨gm, 0, none⟩) n 3 1 n (ints ((runR l n k).mis)), Grow S cs 3 1 ((runR l n k).did.length) (ints ((runR l n k).did)), B] := by
 intro m
 induction m with
 | zero => intro k S cs h; omega
 | succ m ih =>
  intro k S cs hm hk
  refine At.region (ops := opt7_6) (m := 1) (k' := kt7_8) (by kernel_rfl) 300 (k'' := pt7_7) (by kernel_rfl) ?_
  refine SOps.pures 1 (i' := 1) (m' := 0) (e' := [(28, .bool (decide ((k : Int) < ((ticksOf a : Nat) : Int)))), (4, .pointer (some ⟨rb, 0, none⟩)), (5, .pointer (some ⟨g, 0, none⟩)), (26, .int .i64 ((ticksOf a : Nat) : Int)), (27, .int .i64 (k : Int))]) (by intro u; kernel_rfl) ?_
  refine SOps.nil (.inl rfl) ?_
  refine At.pick [4, 5, 26, 27, 28] (e' := [(4, .pointer (some ⟨rb, 0, none⟩)), (5, .pointer (some ⟨g, 0, none⟩)), (26, .int .i64 ((ticksOf a : Nat) : Int)), (27, .int .i64 (k : Int)), (28, .bool (decide ((k : Int) < ((ticksOf a : Nat) : Int))))]) (by kernel_rfl) ?_
  refine At.split (fun zq => [(4, .pointer (some ⟨rb, 0, none⟩)), (5, .pointer (some ⟨g, 0, none⟩)), (26, .int .i64 ((ticksOf a : Nat) : Int)), (27, .int .i64 (k : Int)), (28, .bool zq)]) (decide ((k : Int) < ((ticksOf a : Nat) : Int))) (fun hx1 => ?_) (fun hx1 => ?_)
  ·have hx1 : (k : Int) < ((ticksOf a : Nat) : Int) := by simpa using hx1
   refine At.cond 300 true (c := .tmp 28) (k1 := pt7_8) (k2 := pt7_9) (by kernel_rfl) (by intro u; kernel_rfl) (fun _ => ?_) (fun h => by cases h)
   refine At.pick [4, 5, 26, 27] (e' := [(4, .pointer (some ⟨rb, 0, none⟩)), (5, .pointer (some ⟨g, 0, none⟩)), (26, .int .i64 ((ticksOf a : Nat) : Int)), (27, .int .i64 (k : Int))]) (by kernel_rfl) ?_
   refine At.region (ops := opt7_8) (m := 2) (k' := kt7_12) (by kernel_rfl) 300 (k'' := pt7_10) (by kernel_rfl) ?_
   refine SOps.pures 2 (i' := 2) (m' := 0) (e' := [(6, .int .i64 (k : Int)), (29, .int .i64 (k : Int)), (4, .pointer (some ⟨rb, 0, none⟩)), (5, .pointer (some ⟨g, 0, none⟩)), (26, .int .i64 ((ticksOf a : Nat) : Int)), (27, .int .i64 (k : Int))]) (by intro u; kernel_rfl) ?_
   refine SOps.nil (.inl rfl) ?_
   refine At.pick [4, 5, 6, 26, 27] (e' := [(4, .pointer (some ⟨rb, 0, none⟩)), (5, .pointer (some ⟨g, 0, none⟩)), (6, .int .i64 (k : Int)), (26, .int .i64 ((ticksOf a : Nat) : Int)), (27, .int .i64 (k : Int))]) (by kernel_rfl) ?_
   refine At.region (ops := opt7_10) (m := 3) (k' := kt7_11) (by kernel_rfl) 300 (k'' := pt7_11) (by kernel_rfl) ?_
   refine SOps.pures 2 (i' := 2) (m' := 1) (e' := [(31, .int .i64 (k : Int)), (30, .pointer (some ⟨g, 0, none⟩)), (4, .pointer (some ⟨rb, 0, none⟩)), (5, .pointer (some ⟨g, 0, none⟩)), (6, .int .i64 (k : Int)), (26, .int .i64 ((ticksOf a : Nat) : Int)), (27, .int .i64 (k : Int))]) (by intro u; kernel_rfl) ?_
   refine SOps.o (Op.callX 32 13 #[.pointer (some ⟨g, 0, none⟩), .int .i64 (k : Int)] _ _ [1, 1, 1, 1, 1, 1] (B := [Cells g 43 [.slice A n c0, .slice (some ⟨gl, 0, none⟩) n n, .slice (some ⟨gd, 0, none⟩) n n, .slice S ((runR l n k).did.length) cs, .slice (some ⟨gm, 0, none⟩) n n, .int .i64 ((runR l n k).idle)], Grow (some ⟨gl, 0, none⟩) n 3 1 n (ints ((runR l n k).left)), Grow (some ⟨gd, 0, none⟩) n 3 1 n (ints ((runR l n k).dl)), Grow (some ⟨gm, 0, none⟩) n 3 1 n (ints ((runR l n k).mis)), Grow S cs 3 1 ((runR l n k).did.length) (ints ((runR l n k).did)), B]) (D := [Cells rb 26 [.slice none 0 0, .slice none 0 0, .int .i64 0]]) (by intro u; kernel_rfl) (tick B A l n c0 hl hB hA hn hR g gl gd gm cs S k (runR l n k) (by omega) (good_run hcc k) (runR l n (k + 1)) rfl) (by first | exact .inr rfl | exact .inl rfl) (by kernel_rfl) ?_)
   rintro ⟨Sx2, cx3⟩ -
   refine SOps.nil (.inl rfl) ?_
   refine At.pick [4, 5, 26, 27] (e' := [(4, .pointer (some ⟨rb, 0, none⟩)), (5, .pointer (some ⟨g, 0, none⟩)), (26, .int .i64 ((ticksOf a : Nat) : Int)), (27, .int .i64 (k : Int))]) (by kernel_rfl) ?_
   refine At.region (ops := opt7_11) (m := 2) (k' := kt7_7) (by kernel_rfl) 300 (k'' := pt7_6) (by kernel_rfl) ?_
   refine SOps.v (Val.pe 33 (.int .i64 (IntKind.i64.wrap ((k : Int) + 1))) (.int .i64 (((k + 1 : Nat) : Int))) (by intro u; kernel_rfl) (i64_in (by omega) (by omega) (by omega))) ?_
   refine SOps.pures 1 (i' := 2) (m' := 0) (e' := [(27, .int .i64 (((k + 1 : Nat) : Int))), (33, .int .i64 (((k + 1 : Nat) : Int))), (4, .pointer (some ⟨rb, 0, none⟩)), (5, .pointer (some ⟨g, 0, none⟩)), (26, .int .i64 ((ticksOf a : Nat) : Int)), (27, .int .i64 (k : Int))]) (by intro u; kernel_rfl) ?_
   refine SOps.nil (.inl rfl) ?_
   refine At.pick [4, 5, 26, 27] (e' := [(4, .pointer (some ⟨rb, 0, none⟩)), (5, .pointer (some ⟨g, 0, none⟩)), (26, .int .i64 ((ticksOf a : Nat) : Int)), (27, .int .i64 (((k + 1 : Nat) : Int)))]) (by kernel_rfl) ?_
   refine At.keep [6, 0, 0, 0, 0, 0, 0] (B := [Cells rb 26 [.slice none 0 0, .slice none 0 0, .int .i64 0], Cells g 43 [.slice A n c0, .slice (some ⟨gl, 0, none⟩) n n, .slice (some ⟨gd, 0, none⟩) n n, .slice Sx2 ((runR l n (k + 1)).did.length) cx3, .slice (some ⟨gm, 0, none⟩) n n, .int .i64 ((runR l n (k + 1)).idle)], Grow (some ⟨gl, 0, none⟩) n 3 1 n (ints ((runR l n (k + 1)).left)), Grow (some ⟨gd, 0, none⟩) n 3 1 n (ints ((runR l n (k + 1)).dl)), Grow (some ⟨gm, 0, none⟩) n 3 1 n (ints ((runR l n (k + 1)).mis)), Grow Sx2 cx3 3 1 ((runR l n (k + 1)).did.length) (ints ((runR l n (k + 1)).did)), B]) (D := []) rfl ?_
   exact ih (k + 1) _ _ (by omega) (by omega)
  ·have hx1 : (k : Int) ≥ ((ticksOf a : Nat) : Int) := by simpa using hx1
   refine At.cond 300 false (c := .tmp 28) (k1 := pt7_8) (k2 := pt7_9) (by kernel_rfl) (by intro u; kernel_rfl) (fun h => by cases h) (fun _ => ?_)
   refine At.pick [4, 5] (e' := [(4, .pointer (some ⟨rb, 0, none⟩)), (5, .pointer (some ⟨g, 0, none⟩))]) (by kernel_rfl) ?_
   refine At.region (ops := opt7_9) (m := 5) (k' := kt7_13) (by kernel_rfl) 300 (k'' := pt7_12) (by kernel_rfl) ?_
   refine SOps.pures 3 (i' := 3) (m' := 2) (e' := [(36, .pointer (some ⟨g, 3, none⟩)), (35, .pointer (some ⟨g, 0, none⟩)), (34, .pointer (some ⟨g, 0, none⟩)), (4, .pointer (some ⟨rb, 0, none⟩)), (5, .pointer (some ⟨g, 0, none⟩))]) (by intro u; kernel_rfl) ?_
   refine SOps.v (Val.ldN 1 37 26 g 3 3 [.slice S ((runR l n k).did.length) cs, .slice (some ⟨gm, 0, none⟩) n n, .int .i64 ((runR l n k).idle)] rfl (by intro u; kernel_rfl) (by kernel_rfl) (by kernel_rfl) rfl ⟨(Rd.cells rfl), (Rd.cells rfl), (Rd.cells rfl), trivial⟩) ?_
   refine SOps.o (Op.st 0 26 rb 0 (.agg #[.slice S ((runR l n k).did.length) cs, .slice (some ⟨gm, 0, none⟩) n n, .int .i64 ((runR l n k).idle)]) [.slice S ((runR l n k).did.length) cs, .slice (some ⟨gm, 0, none⟩) n n, .int .i64 ((runR l n k).idle)] 3 (B' := Cells rb 26 [.slice S ((runR l n k).did.length) cs, .slice (some ⟨gm, 0, none⟩) n n, .int .i64 ((runR l n k).idle)]) (A' := [Cells rb 26 [.slice S ((runR l n k).did.length) cs, .slice (some ⟨gm, 0, none⟩) n n, .int .i64 ((runR l n k).idle)], Cells g 43 [.slice A n c0, .slice (some ⟨gl, 0, none⟩) n n, .slice (some ⟨gd, 0, none⟩) n n, .slice S ((runR l n k).did.length) cs, .slice (some ⟨gm, 0, none⟩) n n, .int .i64 ((runR l n k).idle)], Grow (some ⟨gl, 0, none⟩) n 3 1 n (ints ((runR l n k).left)), Grow (some ⟨gd, 0, none⟩) n 3 1 n (ints ((runR l n k).dl)), Grow (some ⟨gm, 0, none⟩) n 3 1 n (ints ((runR l n k).mis)), Grow S cs 3 1 ((runR l n k).did.length) (ints ((runR l n k).did)), B]) rfl (by intro u; kernel_rfl) rfl (by kernel_rfl) rfl rfl (Wr.cells rfl rfl) rfl ?_)
   refine SOps.nil (.inl rfl) ?_
   refine At.pick [4] (e' := [(4, .pointer (some ⟨rb, 0, none⟩))]) (by kernel_rfl) ?_
   refine At.retC 0 (fn := Try.f7) (v := .agg #[.slice S ((runR l n k).did.length) cs, .slice (some ⟨gm, 0, none⟩) n n, .int .i64 ((runR l n k).idle)]) (a := 4) (ty := 26) (b := rb) (o := 0) (n := 3) (vs := [.slice S ((runR l n k).did.length) cs, .slice (some ⟨gm, 0, none⟩) n n, .int .i64 ((runR l n k).idle)]) (by kernel_rfl) Try.func7 (by kernel_rfl) (by kernel_rfl) rfl (by kernel_rfl) (by kernel_rfl) rfl ⟨(Rd.cells rfl), (Rd.cells rfl), (Rd.cells rfl), trivial⟩ rfl (fun F w ho => ?_)
   obtain rfl : k = ticksOf a := by omega
   rw [hs] at ho ⊢
   exact shutX (S, cs, gm) rfl trivial [5, 4, 4] (D := [Cells rb 26 [.slice S (s.did.length) cs, .slice (some ⟨gm, 0, none⟩) n n, .int .i64 (s.idle)], Cells g 43 [.slice A n c0, .slice (some ⟨gl, 0, none⟩) n n, .slice (some ⟨gd, 0, none⟩) n n, .slice S (s.did.length) cs, .slice (some ⟨gm, 0, none⟩) n n, .int .i64 (s.idle)], Grow (some ⟨gl, 0, none⟩) n 3 1 n (ints (s.left)), Grow (some ⟨gd, 0, none⟩) n 3 1 n (ints (s.dl))]) rfl ho
theorem play_yes (B : Asn) (A : Option Addr) (l : List Task) (n c0 : Nat) (hl : l.length = n) (hB : InB B A (tasks l)) (hA : 0 < n → A = some ⟨blk A, ofs A, none⟩) (hn : n ≤ 1000000) (a : Int) (hR : rightB l = true) (s : St) (hs : runR l n (ticksOf a) = s) : Ctr Try.prog 7 #[.slice A n c0, .int .i64 a] [B] (fun v' => ex fun x : Option Addr × Nat × Nat => fact (v' = .agg #[.slice x.1 s.did.length x.2.1, .slice (some ⟨x.2.2, 0, none⟩) n n, .int .i64 s.idle]) :: fact True :: ([Grow x.1 x.2.1 3 1 s.did.length (ints s.did), Grow (some ⟨x.2.2, 0, none⟩) n 3 1 n (ints s.mis), B] : List Asn)) false := by
 have hcc : ∀ i, i < n → 0 ≤ (l.getD i t0).c ∧ (l.getD i t0).c ≤ 1000 := fun i hi => by have := rightB_ok hR (i := i) (by omega); omega
 have htk : ticksOf a ≤ 20000 := by unfold ticksOf; omega
 refine spec_of_at (fn := Try.f7) (c := bd7) (args := [.slice A n c0, .int .i64 a]) (n := 38) (e := [(0, .slice A n c0), (1, .int .i64 a)]) (k := pt7_0) Try.func7 (by kernel_rfl) (by kernel_rfl) (by kernel_rfl) (by kernel_rfl) 300 (by kernel_rfl) ?_
 refine At.region (ops := opt7_0) (m := 1) (k' := kt7_0) (by kernel_rfl) 300 (k'' := pt7_1) (by kernel_rfl) ?_
 refine SOps.o (Op.new 4 26 [.slice none 0 0, .slice none 0 0, .int .i64 0] (fun b => .pointer (some ⟨b, 0, none⟩)) (by intro u b; kernel_rfl) ?_)
 intro bx1
 refine SOps.nil (.inl rfl) ?_
 refine At.pick [0, 1, 4] (e' := [(0, .slice A n c0), (1, .int .i64 a), (4, .pointer (some ⟨bx1, 0, none⟩))]) (by kernel_rfl) ?_
 refine At.region (ops := opt7_1) (m := 3) (k' := kt7_2) (by kernel_rfl) 300 (k'' := pt7_2) (by kernel_rfl) ?_
 refine SOps.pures 1 (i' := 1) (m' := 2) (e' := [(7, .slice A n c0), (0, .slice A n c0), (1, .int .i64 a), (4, .pointer (some ⟨bx1, 0, none⟩))]) (by intro u; kernel_rfl) ?_
 refine SOps.o (Op.callS 8 8 #[.slice A n c0] (.bool (rightB l)) [1] (B := [B]) (D := [Cells bx1 26 [.slice none 0 0, .slice none 0 0, .int .i64 0]]) (by intro u; kernel_rfl) (right8 B A l n c0 hl hB hA hn) (by first | exact .inr rfl | exact .inl rfl) (by kernel_rfl) ?_)
 refine SOps.pures 1 (i' := 3) (m' := 0) (e' := [(9, .bool (!(rightB l))), (8, .bool (rightB l)), (7, .slice A n c0), (0, .slice A n c0), (1, .int .i64 a), (4, .pointer (some ⟨bx1, 0, none⟩))]) (by intro u; kernel_rfl) ?_
 refine SOps.nil (.inl rfl) ?_
 refine At.pick [0, 1, 4, 9] (e' := [(0, .slice A n c0), (1, .int .i64 a), (4, .pointer (some ⟨bx1, 0, none⟩)), (9, .bool (!(rightB l)))]) (by kernel_rfl) ?_
 refine At.split (fun zq => [(0, .slice A n c0), (1, .int .i64 a), (4, .pointer (some ⟨bx1, 0, none⟩)), (9, .bool zq)]) (!(rightB l)) (fun hx2 => ?_) (fun hx2 => ?_)
 ·rw [hR] at hx2; cases hx2
 ·refine At.cond 300 false (c := .tmp 9) (k1 := pt7_3) (k2 := pt7_4) (by kernel_rfl) (by intro u; kernel_rfl) (fun h => by cases h) (fun _ => ?_)
  refine At.pick [0, 1, 4] (e' := [(0, .slice A n c0), (1, .int .i64 a), (4, .pointer (some ⟨bx1, 0, none⟩))]) (by kernel_rfl) ?_
  have hK : ∀ g : Nat, ∀ gl : Nat, ∀ gd : Nat, ∀ gm : Nat, At ⟨Try.prog, 7, (fun v' => ex fun x : Option Addr × Nat × Nat => fact (v' = .agg #[.slice x.1 s.did.length x.2.1, .slice (some ⟨x.2.2, 0, none⟩) n n, .int .i64 s.idle]) :: fact True :: ([Grow x.1 x.2.1 3 1 s.did.length (ints s.did), Grow (some ⟨x.2.2, 0, none⟩) n 3 1 n (ints s.mis), B] : List Asn)), 38, false⟩ pt7_13 [(1, .int .i64 a), (4, .pointer (some ⟨bx1, 0, none⟩)), (5, .pointer (some ⟨g, 0, none⟩))] [Cells g 43 [.slice A n c0, .slice (some ⟨gl, 0, none⟩) n n, .slice (some ⟨gd, 0, none⟩) n n, .slice none 0 0, .slice (some ⟨gm, 0, none⟩) n n, .int .i64 0], Grow (some ⟨gl, 0, none⟩) n 3 1 n (ints (List.replicate n 0)), Grow (some ⟨gd, 0, none⟩) n 3 1 n (ints (List.replicate n 0)), Grow (some ⟨gm, 0, none⟩) n 3 1 n (ints (List.replicate n 0)), Cells bx1 26 [.slice none 0 0, .slice none 0 0, .int .i64 0], B] := by
   intro g gl gd gm
   refine At.region (ops := opt7_13) (m := 4) (k' := kt7_14) (by kernel_rfl) 300 (k'' := pt7_6) (by kernel_rfl) ?_
   refine SOps.pures 1 (i' := 1) (m' := 3) (e' := [(24, .int .i64 a), (1, .int .i64 a), (4, .pointer (some ⟨bx1, 0, none⟩)), (5, .pointer (some ⟨g, 0, none⟩))]) (by intro u; kernel_rfl) ?_
   refine SOps.v (Val.pe 25 (.int .i64 (if a < 0 then 0 else a)) (.int .i64 (max a 0)) (by intro u; kernel_rfl) (int_max _ _ _)) ?_
   refine SOps.v (Val.pe 26 (.int .i64 (if 20000 < (max a 0) then 20000 else (max a 0))) (.int .i64 ((ticksOf a : Nat) : Int)) (by intro u; kernel_rfl) (by rw [int_min]; unfold ticksOf; congr 1; omega)) ?_
   refine SOps.pures 1 (i' := 4) (m' := 0) (e' := [(27, .int .i64 0), (26, .int .i64 ((ticksOf a : Nat) : Int)), (25, .int .i64 (max a 0)), (24, .int .i64 a), (1, .int .i64 a), (4, .pointer (some ⟨bx1, 0, none⟩)), (5, .pointer (some ⟨g, 0, none⟩))]) (by intro u; kernel_rfl) ?_
   refine SOps.nil (.inl rfl) ?_
   refine At.pick [4, 5, 26, 27] (e' := [(4, .pointer (some ⟨bx1, 0, none⟩)), (5, .pointer (some ⟨g, 0, none⟩)), (26, .int .i64 ((ticksOf a : Nat) : Int)), (27, .int .i64 0)]) (by kernel_rfl) ?_
   refine At.conseq1 (fun F w ho => Grow.nil_ 3 1 ho) ?_
   refine At.keep [5, 1, 1, 1, 1, 0, 0] (B := [Cells bx1 26 [.slice none 0 0, .slice none 0 0, .int .i64 0], Cells g 43 [.slice A n c0, .slice (some ⟨gl, 0, none⟩) n n, .slice (some ⟨gd, 0, none⟩) n n, .slice none 0 0, .slice (some ⟨gm, 0, none⟩) n n, .int .i64 0], Grow (some ⟨gl, 0, none⟩) n 3 1 n (ints (List.replicate n 0)), Grow (some ⟨gd, 0, none⟩) n 3 1 n (ints (List.replicate n 0)), Grow (some ⟨gm, 0, none⟩) n 3 1 n (ints (List.replicate n 0)), Grow none 0 3 1 0 (ints ([] : List Int)), B]) (D := []) rfl ?_
   exact play_loop B A l n c0 hl hB hA hn a hR s hs bx1 g gl gd gm hcc htk (ticksOf a + 1) 0 none 0 (by omega) (by omega)
  refine At.game [0, 0] 14 (L := #[false, false, false, false, false, false, false, false, false, false, false, false, false, false]) (ops := opt7_4) (m := 14) (k' := kt7_4) (by kernel_rfl) 300 (k'' := pt7_13) (by kernel_rfl) (by kernel_rfl) rfl (H := [B, Cells bx1 26 [.slice none 0 0, .slice none 0 0, .int .i64 0]]) (E := []) rfl ?_
  refine GOps.pures [0, 1, 2, 4, 5, 7, 8] (L' := #[true, true, true, false, true, true, false, true, true, false, false, false, false, false]) (m' := 7) (e' := [(19, .int .i64 (n : Int)), (18, .slice A n c0), (16, .int .i64 (n : Int)), (15, .slice A n c0), (13, .int .i64 (n : Int)), (12, .slice A n c0), (11, .slice A n c0), (0, .slice A n c0), (1, .int .i64 a), (4, .pointer (some ⟨bx1, 0, none⟩))]) (by kernel_rfl) (by intro u; kernel_rfl) ?_
  refine GOps.three 3 6 9 (by kernel_rfl) ?_ ?_ ?_
  ·refine GStep.o 3 (L' := #[true, true, true, true, true, true, false, true, true, false, false, false, false, false]) rfl (Op.mk 14 (sz := 1) (bytes := 8) el_24 n (by omega) (by unfold maxLen; omega) (by intro u; kernel_rfl) ?_)
   intro bx3
   rw [ints_zero]
   refine GOps.two 6 9 (by kernel_rfl) ?_ ?_
   ·refine GStep.o 6 (L' := #[true, true, true, true, true, true, true, true, true, false, false, false, false, false]) rfl (Op.mk 17 (sz := 1) (bytes := 8) el_24 n (by omega) (by unfold maxLen; omega) (by intro u; kernel_rfl) ?_)
    intro bx4
    rw [ints_zero]
    refine GOps.one 9 (by kernel_rfl) (GStep.o 9 (L' := #[true, true, true, true, true, true, true, true, true, true, false, false, false, false]) rfl (Op.mk 20 (sz := 1) (bytes := 8) el_24 n (by omega) (by unfold maxLen; omega) (by intro u; kernel_rfl) ?_))
    intro bx5
    rw [ints_zero]
    refine GOps.pures [10, 11] (L' := #[true, true, true, true, true, true, true, true, true, true, true, true, false, false]) (m' := 2) (e' := [(22, .agg #[.slice A n c0, .slice (some ⟨bx3, 0, none⟩) n n, .slice (some ⟨bx4, 0, none⟩) n n, .slice none 0 0, .slice (some ⟨bx5, 0, none⟩) n n, .int .i64 0]), (21, .agg #[.slice none 0 0, .slice (some ⟨bx5, 0, none⟩) n n, .int .i64 0]), (20, .slice (some ⟨bx5, 0, none⟩) n n), (17, .slice (some ⟨bx4, 0, none⟩) n n), (14, .slice (some ⟨bx3, 0, none⟩) n n), (19, .int .i64 (n : Int)), (18, .slice A n c0), (16, .int .i64 (n : Int)), (15, .slice A n c0), (13, .int .i64 (n : Int)), (12, .slice A n c0), (11, .slice A n c0), (0, .slice A n c0), (1, .int .i64 a), (4, .pointer (some ⟨bx1, 0, none⟩))]) (by kernel_rfl) (by intro u; kernel_rfl) ?_
    refine GOps.one 12 (by kernel_rfl) (GStep.o 12 (L' := #[true, true, true, true, true, true, true, true, true, true, true, true, true, false]) rfl (Op.new 23 43 [.slice A n c0, .slice (some ⟨bx3, 0, none⟩) n n, .slice (some ⟨bx4, 0, none⟩) n n, .slice none 0 0, .slice (some ⟨bx5, 0, none⟩) n n, .int .i64 0] (fun b => .pointer (some ⟨b, 0, none⟩)) (by intro u b; kernel_rfl) ?_))
    intro bx6
    refine GOps.pures [13] (L' := #[true, true, true, true, true, true, true, true, true, true, true, true, true, true]) (m' := 0) (e' := [(5, .pointer (some ⟨bx6, 0, none⟩)), (23, .pointer (some ⟨bx6, 0, none⟩)), (22, .agg #[.slice A n c0, .slice (some ⟨bx3, 0, none⟩) n n, .slice (some ⟨bx4, 0, none⟩) n n, .slice none 0 0, .slice (some ⟨bx5, 0, none⟩) n n, .int .i64 0]), (21, .agg #[.slice none 0 0, .slice (some ⟨bx5, 0, none⟩) n n, .int .i64 0]), (20, .slice (some ⟨bx5, 0, none⟩) n n), (17, .slice (some ⟨bx4, 0, none⟩) n n), (14, .slice (some ⟨bx3, 0, none⟩) n n), (19, .int .i64 (n : Int)), (18, .slice A n c0), (16, .int .i64 (n : Int)), (15, .slice A n c0), (13, .int .i64 (n : Int)), (12, .slice A n c0), (11, .slice A n c0), (0, .slice A n c0), (1, .int .i64 a), (4, .pointer (some ⟨bx1, 0, none⟩))]) (by kernel_rfl) (by intro u; kernel_rfl) ?_
    refine GOps.nil (by kernel_rfl) ?_
    refine At.pick [1, 4, 5] (e' := [(1, .int .i64 a), (4, .pointer (some ⟨bx1, 0, none⟩)), (5, .pointer (some ⟨bx6, 0, none⟩))]) (by kernel_rfl) ?_
    refine At.keep [2, 4, 3, 2, 1, 0] (B := [Cells bx6 43 [.slice A n c0, .slice (some ⟨bx3, 0, none⟩) n n, .slice (some ⟨bx4, 0, none⟩) n n, .slice none 0 0, .slice (some ⟨bx5, 0, none⟩) n n, .int .i64 0], Grow (some ⟨bx3, 0, none⟩) n 3 1 n (ints (List.replicate n 0)), Grow (some ⟨bx4, 0, none⟩) n 3 1 n (ints (List.replicate n 0)), Grow (some ⟨bx5, 0, none⟩) n 3 1 n (ints (List.replicate n 0)), Cells bx1 26 [.slice none 0 0, .slice none 0 0, .int .i64 0], B]) (D := []) rfl ?_
    exact hK _ _ _ _
   ·refine GStep.o 9 (L' := #[true, true, true, true, true, true, false, true, true, true, false, false, false, false]) rfl (Op.mk 20 (sz := 1) (bytes := 8) el_24 n (by omega) (by unfold maxLen; omega) (by intro u; kernel_rfl) ?_)
    intro bx4
    rw [ints_zero]
    refine GOps.pures [10] (L' := #[true, true, true, true, true, true, false, true, true, true, true, false, false, false]) (m' := 4) (e' := [(21, .agg #[.slice none 0 0, .slice (some ⟨bx4, 0, none⟩) n n, .int .i64 0]), (20, .slice (some ⟨bx4, 0, none⟩) n n), (14, .slice (some ⟨bx3, 0, none⟩) n n), (19, .int .i64 (n : Int)), (18, .slice A n c0), (16, .int .i64 (n : Int)), (15, .slice A n c0), (13, .int .i64 (n : Int)), (12, .slice A n c0), (11, .slice A n c0), (0, .slice A n c0), (1, .int .i64 a), (4, .pointer (some ⟨bx1, 0, none⟩))]) (by kernel_rfl) (by intro u; kernel_rfl) ?_
    refine GOps.one 6 (by kernel_rfl) (GStep.o 6 (L' := #[true, true, true, true, true, true, true, true, true, true, true, false, false, false]) rfl (Op.mk 17 (sz := 1) (bytes := 8) el_24 n (by omega) (by unfold maxLen; omega) (by intro u; kernel_rfl) ?_))
    intro bx5
    rw [ints_zero]
    refine GOps.pures [11] (L' := #[true, true, true, true, true, true, true, true, true, true, true, true, false, false]) (m' := 2) (e' := [(22, .agg #[.slice A n c0, .slice (some ⟨bx3, 0, none⟩) n n, .slice (some ⟨bx5, 0, none⟩) n n, .slice none 0 0, .slice (some ⟨bx4, 0, none⟩) n n, .int .i64 0]), (17, .slice (some ⟨bx5, 0, none⟩) n n), (21, .agg #[.slice none 0 0, .slice (some ⟨bx4, 0, none⟩) n n, .int .i64 0]), (20, .slice (some ⟨bx4, 0, none⟩) n n), (14, .slice (some ⟨bx3, 0, none⟩) n n), (19, .int .i64 (n : Int)), (18, .slice A n c0), (16, .int .i64 (n : Int)), (15, .slice A n c0), (13, .int .i64 (n : Int)), (12, .slice A n c0), (11, .slice A n c0), (0, .slice A n c0), (1, .int .i64 a), (4, .pointer (some ⟨bx1, 0, none⟩))]) (by kernel_rfl) (by intro u; kernel_rfl) ?_
    refine GOps.one 12 (by kernel_rfl) (GStep.o 12 (L' := #[true, true, true, true, true, true, true, true, true, true, true, true, true, false]) rfl (Op.new 23 43 [.slice A n c0, .slice (some ⟨bx3, 0, none⟩) n n, .slice (some ⟨bx5, 0, none⟩) n n, .slice none 0 0, .slice (some ⟨bx4, 0, none⟩) n n, .int .i64 0] (fun b => .pointer (some ⟨b, 0, none⟩)) (by intro u b; kernel_rfl) ?_))
    intro bx6
    refine GOps.pures [13] (L' := #[true, true, true, true, true, true, true, true, true, true, true, true, true, true]) (m' := 0) (e' := [(5, .pointer (some ⟨bx6, 0, none⟩)), (23, .pointer (some ⟨bx6, 0, none⟩)), (22, .agg #[.slice A n c0, .slice (some ⟨bx3, 0, none⟩) n n, .slice (some ⟨bx5, 0, none⟩) n n, .slice none 0 0, .slice (some ⟨bx4, 0, none⟩) n n, .int .i64 0]), (17, .slice (some ⟨bx5, 0, none⟩) n n), (21, .agg #[.slice none 0 0, .slice (some ⟨bx4, 0, none⟩) n n, .int .i64 0]), (20, .slice (some ⟨bx4, 0, none⟩) n n), (14, .slice (some ⟨bx3, 0, none⟩) n n), (19, .int .i64 (n : Int)), (18, .slice A n c0), (16, .int .i64 (n : Int)), (15, .slice A n c0), (13, .int .i64 (n : Int)), (12, .slice A n c0), (11, .slice A n c0), (0, .slice A n c0), (1, .int .i64 a), (4, .pointer (some ⟨bx1, 0, none⟩))]) (by kernel_rfl) (by intro u; kernel_rfl) ?_
    refine GOps.nil (by kernel_rfl) ?_
    refine At.pick [1, 4, 5] (e' := [(1, .int .i64 a), (4, .pointer (some ⟨bx1, 0, none⟩)), (5, .pointer (some ⟨bx6, 0, none⟩))]) (by kernel_rfl) ?_
    refine At.keep [2, 4, 2, 2, 1, 0] (B := [Cells bx6 43 [.slice A n c0, .slice (some ⟨bx3, 0, none⟩) n n, .slice (some ⟨bx5, 0, none⟩) n n, .slice none 0 0, .slice (some ⟨bx4, 0, none⟩) n n, .int .i64 0], Grow (some ⟨bx3, 0, none⟩) n 3 1 n (ints (List.replicate n 0)), Grow (some ⟨bx5, 0, none⟩) n 3 1 n (ints (List.replicate n 0)), Grow (some ⟨bx4, 0, none⟩) n 3 1 n (ints (List.replicate n 0)), Cells bx1 26 [.slice none 0 0, .slice none 0 0, .int .i64 0], B]) (D := []) rfl ?_
    exact hK _ _ _ _
  ·refine GStep.o 6 (L' := #[true, true, true, false, true, true, true, true, true, false, false, false, false, false]) rfl (Op.mk 17 (sz := 1) (bytes := 8) el_24 n (by omega) (by unfold maxLen; omega) (by intro u; kernel_rfl) ?_)
   intro bx3
   rw [ints_zero]
   refine GOps.two 3 9 (by kernel_rfl) ?_ ?_
   ·refine GStep.o 3 (L' := #[true, true, true, true, true, true, true, true, true, false, false, false, false, false]) rfl (Op.mk 14 (sz := 1) (bytes := 8) el_24 n (by omega) (by unfold maxLen; omega) (by intro u; kernel_rfl) ?_)
    intro bx4
    rw [ints_zero]
    refine GOps.one 9 (by kernel_rfl) (GStep.o 9 (L' := #[true, true, true, true, true, true, true, true, true, true, false, false, false, false]) rfl (Op.mk 20 (sz := 1) (bytes := 8) el_24 n (by omega) (by unfold maxLen; omega) (by intro u; kernel_rfl) ?_))
    intro bx5
    rw [ints_zero]
    refine GOps.pures [10, 11] (L' := #[true, true, true, true, true, true, true, true, true, true, true, true, false, false]) (m' := 2) (e' := [(22, .agg #[.slice A n c0, .slice (some ⟨bx4, 0, none⟩) n n, .slice (some ⟨bx3, 0, none⟩) n n, .slice none 0 0, .slice (some ⟨bx5, 0, none⟩) n n, .int .i64 0]), (21, .agg #[.slice none 0 0, .slice (some ⟨bx5, 0, none⟩) n n, .int .i64 0]), (20, .slice (some ⟨bx5, 0, none⟩) n n), (14, .slice (some ⟨bx4, 0, none⟩) n n), (17, .slice (some ⟨bx3, 0, none⟩) n n), (19, .int .i64 (n : Int)), (18, .slice A n c0), (16, .int .i64 (n : Int)), (15, .slice A n c0), (13, .int .i64 (n : Int)), (12, .slice A n c0), (11, .slice A n c0), (0, .slice A n c0), (1, .int .i64 a), (4, .pointer (some ⟨bx1, 0, none⟩))]) (by kernel_rfl) (by intro u; kernel_rfl) ?_
    refine GOps.one 12 (by kernel_rfl) (GStep.o 12 (L' := #[true, true, true, true, true, true, true, true, true, true, true, true, true, false]) rfl (Op.new 23 43 [.slice A n c0, .slice (some ⟨bx4, 0, none⟩) n n, .slice (some ⟨bx3, 0, none⟩) n n, .slice none 0 0, .slice (some ⟨bx5, 0, none⟩) n n, .int .i64 0] (fun b => .pointer (some ⟨b, 0, none⟩)) (by intro u b; kernel_rfl) ?_))
    intro bx6
    refine GOps.pures [13] (L' := #[true, true, true, true, true, true, true, true, true, true, true, true, true, true]) (m' := 0) (e' := [(5, .pointer (some ⟨bx6, 0, none⟩)), (23, .pointer (some ⟨bx6, 0, none⟩)), (22, .agg #[.slice A n c0, .slice (some ⟨bx4, 0, none⟩) n n, .slice (some ⟨bx3, 0, none⟩) n n, .slice none 0 0, .slice (some ⟨bx5, 0, none⟩) n n, .int .i64 0]), (21, .agg #[.slice none 0 0, .slice (some ⟨bx5, 0, none⟩) n n, .int .i64 0]), (20, .slice (some ⟨bx5, 0, none⟩) n n), (14, .slice (some ⟨bx4, 0, none⟩) n n), (17, .slice (some ⟨bx3, 0, none⟩) n n), (19, .int .i64 (n : Int)), (18, .slice A n c0), (16, .int .i64 (n : Int)), (15, .slice A n c0), (13, .int .i64 (n : Int)), (12, .slice A n c0), (11, .slice A n c0), (0, .slice A n c0), (1, .int .i64 a), (4, .pointer (some ⟨bx1, 0, none⟩))]) (by kernel_rfl) (by intro u; kernel_rfl) ?_
    refine GOps.nil (by kernel_rfl) ?_
    refine At.pick [1, 4, 5] (e' := [(1, .int .i64 a), (4, .pointer (some ⟨bx1, 0, none⟩)), (5, .pointer (some ⟨bx6, 0, none⟩))]) (by kernel_rfl) ?_
    refine At.keep [2, 3, 3, 2, 1, 0] (B := [Cells bx6 43 [.slice A n c0, .slice (some ⟨bx4, 0, none⟩) n n, .slice (some ⟨bx3, 0, none⟩) n n, .slice none 0 0, .slice (some ⟨bx5, 0, none⟩) n n, .int .i64 0], Grow (some ⟨bx4, 0, none⟩) n 3 1 n (ints (List.replicate n 0)), Grow (some ⟨bx3, 0, none⟩) n 3 1 n (ints (List.replicate n 0)), Grow (some ⟨bx5, 0, none⟩) n 3 1 n (ints (List.replicate n 0)), Cells bx1 26 [.slice none 0 0, .slice none 0 0, .int .i64 0], B]) (D := []) rfl ?_
    exact hK _ _ _ _
   ·refine GStep.o 9 (L' := #[true, true, true, false, true, true, true, true, true, true, false, false, false, false]) rfl (Op.mk 20 (sz := 1) (bytes := 8) el_24 n (by omega) (by unfold maxLen; omega) (by intro u; kernel_rfl) ?_)
    intro bx4
    rw [ints_zero]
    refine GOps.pures [10] (L' := #[true, true, true, false, true, true, true, true, true, true, true, false, false, false]) (m' := 4) (e' := [(21, .agg #[.slice none 0 0, .slice (some ⟨bx4, 0, none⟩) n n, .int .i64 0]), (20, .slice (some ⟨bx4, 0, none⟩) n n), (17, .slice (some ⟨bx3, 0, none⟩) n n), (19, .int .i64 (n : Int)), (18, .slice A n c0), (16, .int .i64 (n : Int)), (15, .slice A n c0), (13, .int .i64 (n : Int)), (12, .slice A n c0), (11, .slice A n c0), (0, .slice A n c0), (1, .int .i64 a), (4, .pointer (some ⟨bx1, 0, none⟩))]) (by kernel_rfl) (by intro u; kernel_rfl) ?_
    refine GOps.one 3 (by kernel_rfl) (GStep.o 3 (L' := #[true, true, true, true, true, true, true, true, true, true, true, false, false, false]) rfl (Op.mk 14 (sz := 1) (bytes := 8) el_24 n (by omega) (by unfold maxLen; omega) (by intro u; kernel_rfl) ?_))
    intro bx5
    rw [ints_zero]
    refine GOps.pures [11] (L' := #[true, true, true, true, true, true, true, true, true, true, true, true, false, false]) (m' := 2) (e' := [(22, .agg #[.slice A n c0, .slice (some ⟨bx5, 0, none⟩) n n, .slice (some ⟨bx3, 0, none⟩) n n, .slice none 0 0, .slice (some ⟨bx4, 0, none⟩) n n, .int .i64 0]), (14, .slice (some ⟨bx5, 0, none⟩) n n), (21, .agg #[.slice none 0 0, .slice (some ⟨bx4, 0, none⟩) n n, .int .i64 0]), (20, .slice (some ⟨bx4, 0, none⟩) n n), (17, .slice (some ⟨bx3, 0, none⟩) n n), (19, .int .i64 (n : Int)), (18, .slice A n c0), (16, .int .i64 (n : Int)), (15, .slice A n c0), (13, .int .i64 (n : Int)), (12, .slice A n c0), (11, .slice A n c0), (0, .slice A n c0), (1, .int .i64 a), (4, .pointer (some ⟨bx1, 0, none⟩))]) (by kernel_rfl) (by intro u; kernel_rfl) ?_
    refine GOps.one 12 (by kernel_rfl) (GStep.o 12 (L' := #[true, true, true, true, true, true, true, true, true, true, true, true, true, false]) rfl (Op.new 23 43 [.slice A n c0, .slice (some ⟨bx5, 0, none⟩) n n, .slice (some ⟨bx3, 0, none⟩) n n, .slice none 0 0, .slice (some ⟨bx4, 0, none⟩) n n, .int .i64 0] (fun b => .pointer (some ⟨b, 0, none⟩)) (by intro u b; kernel_rfl) ?_))
    intro bx6
    refine GOps.pures [13] (L' := #[true, true, true, true, true, true, true, true, true, true, true, true, true, true]) (m' := 0) (e' := [(5, .pointer (some ⟨bx6, 0, none⟩)), (23, .pointer (some ⟨bx6, 0, none⟩)), (22, .agg #[.slice A n c0, .slice (some ⟨bx5, 0, none⟩) n n, .slice (some ⟨bx3, 0, none⟩) n n, .slice none 0 0, .slice (some ⟨bx4, 0, none⟩) n n, .int .i64 0]), (14, .slice (some ⟨bx5, 0, none⟩) n n), (21, .agg #[.slice none 0 0, .slice (some ⟨bx4, 0, none⟩) n n, .int .i64 0]), (20, .slice (some ⟨bx4, 0, none⟩) n n), (17, .slice (some ⟨bx3, 0, none⟩) n n), (19, .int .i64 (n : Int)), (18, .slice A n c0), (16, .int .i64 (n : Int)), (15, .slice A n c0), (13, .int .i64 (n : Int)), (12, .slice A n c0), (11, .slice A n c0), (0, .slice A n c0), (1, .int .i64 a), (4, .pointer (some ⟨bx1, 0, none⟩))]) (by kernel_rfl) (by intro u; kernel_rfl) ?_
    refine GOps.nil (by kernel_rfl) ?_
    refine At.pick [1, 4, 5] (e' := [(1, .int .i64 a), (4, .pointer (some ⟨bx1, 0, none⟩)), (5, .pointer (some ⟨bx6, 0, none⟩))]) (by kernel_rfl) ?_
    refine At.keep [2, 2, 3, 2, 1, 0] (B := [Cells bx6 43 [.slice A n c0, .slice (some ⟨bx5, 0, none⟩) n n, .slice (some ⟨bx3, 0, none⟩) n n, .slice none 0 0, .slice (some ⟨bx4, 0, none⟩) n n, .int .i64 0], Grow (some ⟨bx5, 0, none⟩) n 3 1 n (ints (List.replicate n 0)), Grow (some ⟨bx3, 0, none⟩) n 3 1 n (ints (List.replicate n 0)), Grow (some ⟨bx4, 0, none⟩) n 3 1 n (ints (List.replicate n 0)), Cells bx1 26 [.slice none 0 0, .slice none 0 0, .int .i64 0], B]) (D := []) rfl ?_
    exact hK _ _ _ _
  ·refine GStep.o 9 (L' := #[true, true, true, false, true, true, false, true, true, true, false, false, false, false]) rfl (Op.mk 20 (sz := 1) (bytes := 8) el_24 n (by omega) (by unfold maxLen; omega) (by intro u; kernel_rfl) ?_)
   intro bx3
   rw [ints_zero]
   refine GOps.pures [10] (L' := #[true, true, true, false, true, true, false, true, true, true, true, false, false, false]) (m' := 5) (e' := [(21, .agg #[.slice none 0 0, .slice (some ⟨bx3, 0, none⟩) n n, .int .i64 0]), (20, .slice (some ⟨bx3, 0, none⟩) n n), (19, .int .i64 (n : Int)), (18, .slice A n c0), (16, .int .i64 (n : Int)), (15, .slice A n c0), (13, .int .i64 (n : Int)), (12, .slice A n c0), (11, .slice A n c0), (0, .slice A n c0), (1, .int .i64 a), (4, .pointer (some ⟨bx1, 0, none⟩))]) (by kernel_rfl) (by intro u; kernel_rfl) ?_
   refine GOps.two 3 6 (by kernel_rfl) ?_ ?_
   ·refine GStep.o 3 (L' := #[true, true, true, true, true, true, false, true, true, true, true, false, false, false]) rfl (Op.mk 14 (sz := 1) (bytes := 8) el_24 n (by omega) (by unfold maxLen; omega) (by intro u; kernel_rfl) ?_)
    intro bx4
    rw [ints_zero]
    refine GOps.one 6 (by kernel_rfl) (GStep.o 6 (L' := #[true, true, true, true, true, true, true, true, true, true, true, false, false, false]) rfl (Op.mk 17 (sz := 1) (bytes := 8) el_24 n (by omega) (by unfold maxLen; omega) (by intro u; kernel_rfl) ?_))
    intro bx5
    rw [ints_zero]
    refine GOps.pures [11] (L' := #[true, true, true, true, true, true, true, true, true, true, true, true, false, false]) (m' := 2) (e' := [(22, .agg #[.slice A n c0, .slice (some ⟨bx4, 0, none⟩) n n, .slice (some ⟨bx5, 0, none⟩) n n, .slice none 0 0, .slice (some ⟨bx3, 0, none⟩) n n, .int .i64 0]), (17, .slice (some ⟨bx5, 0, none⟩) n n), (14, .slice (some ⟨bx4, 0, none⟩) n n), (21, .agg #[.slice none 0 0, .slice (some ⟨bx3, 0, none⟩) n n, .int .i64 0]), (20, .slice (some ⟨bx3, 0, none⟩) n n), (19, .int .i64 (n : Int)), (18, .slice A n c0), (16, .int .i64 (n : Int)), (15, .slice A n c0), (13, .int .i64 (n : Int)), (12, .slice A n c0), (11, .slice A n c0), (0, .slice A n c0), (1, .int .i64 a), (4, .pointer (some ⟨bx1, 0, none⟩))]) (by kernel_rfl) (by intro u; kernel_rfl) ?_
    refine GOps.one 12 (by kernel_rfl) (GStep.o 12 (L' := #[true, true, true, true, true, true, true, true, true, true, true, true, true, false]) rfl (Op.new 23 43 [.slice A n c0, .slice (some ⟨bx4, 0, none⟩) n n, .slice (some ⟨bx5, 0, none⟩) n n, .slice none 0 0, .slice (some ⟨bx3, 0, none⟩) n n, .int .i64 0] (fun b => .pointer (some ⟨b, 0, none⟩)) (by intro u b; kernel_rfl) ?_))
    intro bx6
    refine GOps.pures [13] (L' := #[true, true, true, true, true, true, true, true, true, true, true, true, true, true]) (m' := 0) (e' := [(5, .pointer (some ⟨bx6, 0, none⟩)), (23, .pointer (some ⟨bx6, 0, none⟩)), (22, .agg #[.slice A n c0, .slice (some ⟨bx4, 0, none⟩) n n, .slice (some ⟨bx5, 0, none⟩) n n, .slice none 0 0, .slice (some ⟨bx3, 0, none⟩) n n, .int .i64 0]), (17, .slice (some ⟨bx5, 0, none⟩) n n), (14, .slice (some ⟨bx4, 0, none⟩) n n), (21, .agg #[.slice none 0 0, .slice (some ⟨bx3, 0, none⟩) n n, .int .i64 0]), (20, .slice (some ⟨bx3, 0, none⟩) n n), (19, .int .i64 (n : Int)), (18, .slice A n c0), (16, .int .i64 (n : Int)), (15, .slice A n c0), (13, .int .i64 (n : Int)), (12, .slice A n c0), (11, .slice A n c0), (0, .slice A n c0), (1, .int .i64 a), (4, .pointer (some ⟨bx1, 0, none⟩))]) (by kernel_rfl) (by intro u; kernel_rfl) ?_
    refine GOps.nil (by kernel_rfl) ?_
    refine At.pick [1, 4, 5] (e' := [(1, .int .i64 a), (4, .pointer (some ⟨bx1, 0, none⟩)), (5, .pointer (some ⟨bx6, 0, none⟩))]) (by kernel_rfl) ?_
    refine At.keep [2, 3, 2, 2, 1, 0] (B := [Cells bx6 43 [.slice A n c0, .slice (some ⟨bx4, 0, none⟩) n n, .slice (some ⟨bx5, 0, none⟩) n n, .slice none 0 0, .slice (some ⟨bx3, 0, none⟩) n n, .int .i64 0], Grow (some ⟨bx4, 0, none⟩) n 3 1 n (ints (List.replicate n 0)), Grow (some ⟨bx5, 0, none⟩) n 3 1 n (ints (List.replicate n 0)), Grow (some ⟨bx3, 0, none⟩) n 3 1 n (ints (List.replicate n 0)), Cells bx1 26 [.slice none 0 0, .slice none 0 0, .int .i64 0], B]) (D := []) rfl ?_
    exact hK _ _ _ _
   ·refine GStep.o 6 (L' := #[true, true, true, false, true, true, true, true, true, true, true, false, false, false]) rfl (Op.mk 17 (sz := 1) (bytes := 8) el_24 n (by omega) (by unfold maxLen; omega) (by intro u; kernel_rfl) ?_)
    intro bx4
    rw [ints_zero]
    refine GOps.one 3 (by kernel_rfl) (GStep.o 3 (L' := #[true, true, true, true, true, true, true, true, true, true, true, false, false, false]) rfl (Op.mk 14 (sz := 1) (bytes := 8) el_24 n (by omega) (by unfold maxLen; omega) (by intro u; kernel_rfl) ?_))
    intro bx5
    rw [ints_zero]
    refine GOps.pures [11] (L' := #[true, true, true, true, true, true, true, true, true, true, true, true, false, false]) (m' := 2) (e' := [(22, .agg #[.slice A n c0, .slice (some ⟨bx5, 0, none⟩) n n, .slice (some ⟨bx4, 0, none⟩) n n, .slice none 0 0, .slice (some ⟨bx3, 0, none⟩) n n, .int .i64 0]), (14, .slice (some ⟨bx5, 0, none⟩) n n), (17, .slice (some ⟨bx4, 0, none⟩) n n), (21, .agg #[.slice none 0 0, .slice (some ⟨bx3, 0, none⟩) n n, .int .i64 0]), (20, .slice (some ⟨bx3, 0, none⟩) n n), (19, .int .i64 (n : Int)), (18, .slice A n c0), (16, .int .i64 (n : Int)), (15, .slice A n c0), (13, .int .i64 (n : Int)), (12, .slice A n c0), (11, .slice A n c0), (0, .slice A n c0), (1, .int .i64 a), (4, .pointer (some ⟨bx1, 0, none⟩))]) (by kernel_rfl) (by intro u; kernel_rfl) ?_
    refine GOps.one 12 (by kernel_rfl) (GStep.o 12 (L' := #[true, true, true, true, true, true, true, true, true, true, true, true, true, false]) rfl (Op.new 23 43 [.slice A n c0, .slice (some ⟨bx5, 0, none⟩) n n, .slice (some ⟨bx4, 0, none⟩) n n, .slice none 0 0, .slice (some ⟨bx3, 0, none⟩) n n, .int .i64 0] (fun b => .pointer (some ⟨b, 0, none⟩)) (by intro u b; kernel_rfl) ?_))
    intro bx6
    refine GOps.pures [13] (L' := #[true, true, true, true, true, true, true, true, true, true, true, true, true, true]) (m' := 0) (e' := [(5, .pointer (some ⟨bx6, 0, none⟩)), (23, .pointer (some ⟨bx6, 0, none⟩)), (22, .agg #[.slice A n c0, .slice (some ⟨bx5, 0, none⟩) n n, .slice (some ⟨bx4, 0, none⟩) n n, .slice none 0 0, .slice (some ⟨bx3, 0, none⟩) n n, .int .i64 0]), (14, .slice (some ⟨bx5, 0, none⟩) n n), (17, .slice (some ⟨bx4, 0, none⟩) n n), (21, .agg #[.slice none 0 0, .slice (some ⟨bx3, 0, none⟩) n n, .int .i64 0]), (20, .slice (some ⟨bx3, 0, none⟩) n n), (19, .int .i64 (n : Int)), (18, .slice A n c0), (16, .int .i64 (n : Int)), (15, .slice A n c0), (13, .int .i64 (n : Int)), (12, .slice A n c0), (11, .slice A n c0), (0, .slice A n c0), (1, .int .i64 a), (4, .pointer (some ⟨bx1, 0, none⟩))]) (by kernel_rfl) (by intro u; kernel_rfl) ?_
    refine GOps.nil (by kernel_rfl) ?_
    refine At.pick [1, 4, 5] (e' := [(1, .int .i64 a), (4, .pointer (some ⟨bx1, 0, none⟩)), (5, .pointer (some ⟨bx6, 0, none⟩))]) (by kernel_rfl) ?_
    refine At.keep [2, 2, 2, 2, 1, 0] (B := [Cells bx6 43 [.slice A n c0, .slice (some ⟨bx5, 0, none⟩) n n, .slice (some ⟨bx4, 0, none⟩) n n, .slice none 0 0, .slice (some ⟨bx3, 0, none⟩) n n, .int .i64 0], Grow (some ⟨bx5, 0, none⟩) n 3 1 n (ints (List.replicate n 0)), Grow (some ⟨bx4, 0, none⟩) n 3 1 n (ints (List.replicate n 0)), Grow (some ⟨bx3, 0, none⟩) n 3 1 n (ints (List.replicate n 0)), Cells bx1 26 [.slice none 0 0, .slice none 0 0, .int .i64 0], B]) (D := []) rfl ?_
    exact hK _ _ _ _
end Go.Proofs.Dl
