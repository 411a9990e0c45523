/- Deadline: a tick. -/
import Derived.Test.YtcndjkjlgdidoaaDlB
namespace Go.Proofs.Dl
open Go Go.Sp Go.Dl
set_option linter.unusedVariables false
set_option linter.unusedSimpArgs false
set_option linter.unnecessarySimpa false
set_option maxRecDepth 100000
noncomputable def bd13 : Code := (Try.f13.body).getD .skip
noncomputable def kt13_0 : List Item := .code (pick [1] bd13) :: []
noncomputable def pt13_0 : List Item := .code (pick [0] bd13) :: kt13_0
noncomputable def opt13_0 : Array Oper := opsOf (pick [0] bd13)
noncomputable def kt13_1 : List Item := .code (pick [1, 1] bd13) :: []
noncomputable def pt13_1 : List Item := .code (pick [1, 0] bd13) :: kt13_1
noncomputable def opt13_1 : Array Oper := opsOf (pick [1, 0] bd13)
noncomputable def kt13_2 : List Item := .code (pick [1, 1, 1] bd13) :: []
noncomputable def pt13_2 : List Item := .code (pick [1, 1, 0] bd13) :: kt13_2
noncomputable def opt13_2 : Array Oper := opsOf (pick [1, 1, 0] bd13)
noncomputable def kt13_3 : List Item := .code (pick [1, 1, 1, 1] bd13) :: []
noncomputable def kt13_4 : List Item := .code (pick [1, 1, 1, 0, 1] bd13) :: kt13_3
noncomputable def pt13_3 : List Item := .code (pick [1, 1, 1, 0, 0] bd13) :: kt13_4
noncomputable def opt13_3 : Array Oper := opsOf (pick [1, 1, 1, 0, 0] bd13)
noncomputable def pt13_4 : List Item := .code (pick [1, 1, 1, 0, 1] bd13) :: kt13_3
noncomputable def kt13_5 : List Item := .code (pick [1, 1, 1, 0, 1, 0, 1] bd13) :: kt13_3
noncomputable def pt13_5 : List Item := .code (pick [1, 1, 1, 0, 1, 0, 0] bd13) :: kt13_5
noncomputable def opt13_5 : Array Oper := opsOf (pick [1, 1, 1, 0, 1, 0, 0] bd13)
noncomputable def pt13_6 : List Item := .code (pick [1, 1, 1, 1] bd13) :: []
noncomputable def opt13_6 : Array Oper := opsOf (pick [1, 1, 1, 1] bd13)
noncomputable def pt13_7 : List Item := .code (pick [1, 1, 1, 0, 1, 0, 1] bd13) :: kt13_3
theorem tick (B : Asn) (A : Option Addr) (l : List Task) (n c0 : Nat) (hl : l.length = n) (hB : InB B A (tasks l)) (hA : 0 < n → A = some ⟨blk A, ofs A, none⟩) (hn : n ≤ 1000000) (hR : rightB l = true) (g gl gd gm cs : Nat) (S : Option Addr) (t : Int) (s : St) (ht : 0 ≤ t ∧ t < 20000) (hg : Good n t s) (s1 : St) (hs1 : tickR l n t s = s1) : Ctr Try.prog 13 #[.pointer (some ⟨g, 0, none⟩), .int .i64 t] [Cells g 43 [.slice A n c0, .slice (some ⟨gl, 0, none⟩) n n, .slice (some ⟨gd, 0, none⟩) n n, .slice S s.did.length cs, .slice (some ⟨gm, 0, none⟩) n n, .int .i64 s.idle], Grow (some ⟨gl, 0, none⟩) n 3 1 n (ints s.left), Grow (some ⟨gd, 0, none⟩) n 3 1 n (ints s.dl), Grow (some ⟨gm, 0, none⟩) n 3 1 n (ints s.mis), Grow S cs 3 1 s.did.length (ints s.did), B] (fun v' => ex fun x : Option Addr × Nat => fact (v' = .tuple #[]) :: fact True :: ([Cells g 43 [.slice A n c0, .slice (some ⟨gl, 0, none⟩) n n, .slice (some ⟨gd, 0, none⟩) n n, .slice x.1 s1.did.length x.2, .slice (some ⟨gm, 0, none⟩) n n, .int .i64 s1.idle], Grow (some ⟨gl, 0, none⟩) n 3 1 n (ints s1.left), Grow (some ⟨gd, 0, none⟩) n 3 1 n (ints s1.dl), Grow (some ⟨gm, 0, none⟩) n 3 1 n (ints s1.mis), Grow x.1 x.2 3 1 s1.did.length (ints s1.did), B] : List Asn)) false := by
 obtain ⟨a1, b1, c1, hcr⟩ : ∃ a1 b1 c1, comeR l t ⟨s.left, s.dl, s.mis⟩ n = ⟨a1, b1, c1⟩ := ⟨_, _, _, rfl⟩
 obtain ⟨z, hz⟩ : ∃ z, bestR a1 b1 n = z := ⟨_, rfl⟩
 have hlen := comeR_len l t ⟨s.left, s.dl, s.mis⟩ n
 rw [hcr] at hlen
 have hl1 : a1.length = n := hlen.1.trans hg.l1
 have hl2 : b1.length = n := hlen.2.1.trans hg.l2
 have hbd := bestR_bd a1 b1 n
 rw [hz] at hbd
 have hL := comeR_left (l := l) (t := t) (s := ⟨s.left, s.dl, s.mis⟩) hg.L n (fun i hi => by have := rightB_ok hR (i := i) (by omega); omega) z.toNat
 rw [hcr] at hL
 simp only at hL
 have hI := hg.I
 have hd := hg.d
 clear hlen
 refine spec_of_at (fn := Try.f13) (c := bd13) (args := [.pointer (some ⟨g, 0, none⟩), .int .i64 t]) (n := 42) (e := [(0, .pointer (some ⟨g, 0, none⟩)), (1, .int .i64 t)]) (k := pt13_0) Try.func13 (by kernel_rfl) (by kernel_rfl) (by kernel_rfl) (by kernel_rfl) 300 (by kernel_rfl) ?_
 refine At.region (ops := opt13_0) (m := 3) (k' := kt13_0) (by kernel_rfl) 300 (k'' := pt13_1) (by kernel_rfl) ?_
 refine SOps.pures 2 (i' := 2) (m' := 1) (e' := [(6, .int .i64 t), (5, .pointer (some ⟨g, 0, none⟩)), (0, .pointer (some ⟨g, 0, none⟩)), (1, .int .i64 t)]) (by intro u; kernel_rfl) ?_
 refine SOps.o (Op.callS 7 15 #[.pointer (some ⟨g, 0, none⟩), .int .i64 t] (.tuple #[]) [0, 0, 0, 0, 1] (B := [Cells g 43 [.slice A n c0, .slice (some ⟨gl, 0, none⟩) n n, .slice (some ⟨gd, 0, none⟩) n n, .slice S s.did.length cs, .slice (some ⟨gm, 0, none⟩) n n, .int .i64 s.idle], Grow (some ⟨gl, 0, none⟩) n 3 1 n (ints s.left), Grow (some ⟨gd, 0, none⟩) n 3 1 n (ints s.dl), Grow (some ⟨gm, 0, none⟩) n 3 1 n (ints s.mis), B]) (D := [Grow S cs 3 1 s.did.length (ints s.did)]) (by intro u; kernel_rfl) (come B A l n c0 hl hB hA hn g gl gd gm s.did.length cs S s.idle t s.left s.dl s.mis (by omega) hg.l1 hg.l2 hg.l3 (fun i hi => by have := rightB_ok hR (i := i) (by omega); omega) (fun i => by have := hg.M i; omega) a1 b1 c1 hcr) (by first | exact .inr rfl | exact .inl rfl) (by kernel_rfl) ?_)
 refine SOps.nil (.inl rfl) ?_
 refine At.pick [0] (e' := [(0, .pointer (some ⟨g, 0, none⟩))]) (by kernel_rfl) ?_
 refine At.region (ops := opt13_1) (m := 3) (k' := kt13_1) (by kernel_rfl) 300 (k'' := pt13_2) (by kernel_rfl) ?_
 refine SOps.pures 1 (i' := 1) (m' := 2) (e' := [(8, .pointer (some ⟨g, 0, none⟩)), (0, .pointer (some ⟨g, 0, none⟩))]) (by intro u; kernel_rfl) ?_
 refine SOps.o (Op.callS 9 16 #[.pointer (some ⟨g, 0, none⟩)] (.int .i64 z) [0, 0, 0, 0] (B := [Cells g 43 [.slice A n c0, .slice (some ⟨gl, 0, none⟩) n n, .slice (some ⟨gd, 0, none⟩) n n, .slice S s.did.length cs, .slice (some ⟨gm, 0, none⟩) n n, .int .i64 s.idle], Grow (some ⟨gl, 0, none⟩) n 3 1 n (ints a1), Grow (some ⟨gd, 0, none⟩) n 3 1 n (ints b1), Grow (some ⟨gm, 0, none⟩) n 3 1 n (ints c1)]) (D := [B, Grow S cs 3 1 s.did.length (ints s.did)]) (by intro u; kernel_rfl) (next A n c0 hn g gl gd gm s.did.length cs S s.idle a1 b1 c1 hl1 hl2 z hz) (by first | exact .inr rfl | exact .inl rfl) (by kernel_rfl) ?_)
 refine SOps.pures 1 (i' := 3) (m' := 0) (e' := [(4, .int .i64 z), (9, .int .i64 z), (8, .pointer (some ⟨g, 0, none⟩)), (0, .pointer (some ⟨g, 0, none⟩))]) (by intro u; kernel_rfl) ?_
 refine SOps.nil (.inl rfl) ?_
 refine At.pick [0, 4] (e' := [(0, .pointer (some ⟨g, 0, none⟩)), (4, .int .i64 z)]) (by kernel_rfl) ?_
 refine At.region (ops := opt13_2) (m := 13) (k' := kt13_2) (by kernel_rfl) 300 (k'' := pt13_3) (by kernel_rfl) ?_
 refine SOps.pures 5 (i' := 5) (m' := 8) (e' := [(14, .pointer (some ⟨g, 3, none⟩)), (13, .pointer (some ⟨g, 3, none⟩)), (12, .pointer (some ⟨g, 0, none⟩)), (11, .pointer (some ⟨g, 0, none⟩)), (10, .pointer (some ⟨g, 0, none⟩)), (0, .pointer (some ⟨g, 0, none⟩)), (4, .int .i64 z)]) (by intro u; kernel_rfl) ?_
 refine SOps.v (Val.ld1 0 15 24 g 3 (.slice S s.did.length cs) rfl (by intro u; kernel_rfl) (by kernel_rfl) (Rd.cells rfl)) ?_
 refine SOps.pures 1 (i' := 7) (m' := 6) (e' := [(16, .int .i64 z), (15, .slice S s.did.length cs), (14, .pointer (some ⟨g, 3, none⟩)), (13, .pointer (some ⟨g, 3, none⟩)), (12, .pointer (some ⟨g, 0, none⟩)), (11, .pointer (some ⟨g, 0, none⟩)), (10, .pointer (some ⟨g, 0, none⟩)), (0, .pointer (some ⟨g, 0, none⟩)), (4, .int .i64 z)]) (by intro u; kernel_rfl) ?_
 refine SOps.o (Op.new 17 3 [.int .i64 z] (fun b => .slice (some ⟨b, 0, none⟩) 1 1) (by intro u b; kernel_rfl) ?_)
 intro bx1
 refine SOps.o (Op.app 6 0 18 (sz := 1) (bytes := 8) (b := bx1) (o := 0) (q := 1) (c := 1) (ty := 24) el_24 [.int .i64 z] (ints (s.did ++ [z])) rfl rfl (by intro u; kernel_rfl) rfl ⟨Rd.cells rfl, trivial⟩ rfl (by unfold maxLen; omega) (by omega) (ints_app _ _) ?_)
 intro Sx2 cx3
 refine SOps.pures 3 (i' := 12) (m' := 1) (e' := [(21, .pointer (some ⟨g, 3, none⟩)), (20, .pointer (some ⟨g, 3, none⟩)), (19, .pointer (some ⟨g, 0, none⟩)), (18, .slice Sx2 (s.did.length + 1) cx3), (17, .slice (some ⟨bx1, 0, none⟩) 1 1), (16, .int .i64 z), (15, .slice S s.did.length cs), (14, .pointer (some ⟨g, 3, none⟩)), (13, .pointer (some ⟨g, 3, none⟩)), (12, .pointer (some ⟨g, 0, none⟩)), (11, .pointer (some ⟨g, 0, none⟩)), (10, .pointer (some ⟨g, 0, none⟩)), (0, .pointer (some ⟨g, 0, none⟩)), (4, .int .i64 z)]) (by intro u; kernel_rfl) ?_
 refine SOps.o (Op.st 1 24 g 3 (.slice Sx2 (s.did.length + 1) cx3) [.slice Sx2 (s.did.length + 1) cx3] 1 (B' := Cells g 43 [.slice A n c0, .slice (some ⟨gl, 0, none⟩) n n, .slice (some ⟨gd, 0, none⟩) n n, .slice Sx2 (s.did.length + 1) cx3, .slice (some ⟨gm, 0, none⟩) n n, .int .i64 s.idle]) (A' := [Cells bx1 3 [.int .i64 z], Cells g 43 [.slice A n c0, .slice (some ⟨gl, 0, none⟩) n n, .slice (some ⟨gd, 0, none⟩) n n, .slice Sx2 (s.did.length + 1) cx3, .slice (some ⟨gm, 0, none⟩) n n, .int .i64 s.idle], Grow (some ⟨gl, 0, none⟩) n 3 1 n (ints a1), Grow (some ⟨gd, 0, none⟩) n 3 1 n (ints b1), Grow (some ⟨gm, 0, none⟩) n 3 1 n (ints c1), B, Grow Sx2 cx3 3 1 (s.did.length + 1) (ints (s.did ++ [z]))]) rfl (by intro u; kernel_rfl) rfl (by kernel_rfl) rfl rfl (Wr.cells rfl rfl) rfl ?_)
 refine SOps.nil (.inl rfl) ?_
 refine At.pick [0, 4] (e' := [(0, .pointer (some ⟨g, 0, none⟩)), (4, .int .i64 z)]) (by kernel_rfl) ?_
 refine At.region (ops := opt13_3) (m := 2) (k' := kt13_4) (by kernel_rfl) 300 (k'' := pt13_4) (by kernel_rfl) ?_
 refine SOps.pures 2 (i' := 2) (m' := 0) (e' := [(23, .bool (decide (z < 0))), (22, .int .i64 z), (0, .pointer (some ⟨g, 0, none⟩)), (4, .int .i64 z)]) (by intro u; kernel_rfl) ?_
 refine SOps.nil (.inl rfl) ?_
 refine At.pick [0, 4, 23] (e' := [(0, .pointer (some ⟨g, 0, none⟩)), (4, .int .i64 z), (23, .bool (decide (z < 0)))]) (by kernel_rfl) ?_
 refine At.split (fun zq => [(0, .pointer (some ⟨g, 0, none⟩)), (4, .int .i64 z), (23, .bool zq)]) (decide (z < 0)) (fun hx4 => ?_) (fun hx4 => ?_)
 ·have hx4 : z < 0 := by simpa using hx4
  refine At.cond 300 true (c := .tmp 23) (k1 := pt13_5) (k2 := pt13_6) (by kernel_rfl) (by intro u; kernel_rfl) (fun _ => ?_) (fun h => by cases h)
  refine At.pick [0] (e' := [(0, .pointer (some ⟨g, 0, none⟩))]) (by kernel_rfl) ?_
  refine At.region (ops := opt13_5) (m := 10) (k' := kt13_5) (by kernel_rfl) 300 (k'' := pt13_7) (by kernel_rfl) ?_
  refine SOps.pures 4 (i' := 4) (m' := 6) (e' := [(27, .pointer (some ⟨g, 5, none⟩)), (26, .pointer (some ⟨g, 3, none⟩)), (25, .pointer (some ⟨g, 0, none⟩)), (24, .pointer (some ⟨g, 0, none⟩)), (0, .pointer (some ⟨g, 0, none⟩))]) (by intro u; kernel_rfl) ?_
  refine SOps.v (Val.ld1 1 28 3 g 5 (.int .i64 s.idle) rfl (by intro u; kernel_rfl) (by kernel_rfl) (Rd.cells rfl)) ?_
  refine SOps.v (Val.pe 29 (.int .i64 (IntKind.i64.wrap (s.idle + 1))) (.int .i64 (s.idle + 1)) (by intro u; kernel_rfl) (i64_in rfl (by omega) (by omega))) ?_
  refine SOps.pures 3 (i' := 9) (m' := 1) (e' := [(32, .pointer (some ⟨g, 5, none⟩)), (31, .pointer (some ⟨g, 3, none⟩)), (30, .pointer (some ⟨g, 0, none⟩)), (29, .int .i64 (s.idle + 1)), (28, .int .i64 s.idle), (27, .pointer (some ⟨g, 5, none⟩)), (26, .pointer (some ⟨g, 3, none⟩)), (25, .pointer (some ⟨g, 0, none⟩)), (24, .pointer (some ⟨g, 0, none⟩)), (0, .pointer (some ⟨g, 0, none⟩))]) (by intro u; kernel_rfl) ?_
  refine SOps.o (Op.st 1 3 g 5 (.int .i64 (s.idle + 1)) [.int .i64 (s.idle + 1)] 1 (B' := Cells g 43 [.slice A n c0, .slice (some ⟨gl, 0, none⟩) n n, .slice (some ⟨gd, 0, none⟩) n n, .slice Sx2 (s.did.length + 1) cx3, .slice (some ⟨gm, 0, none⟩) n n, .int .i64 (s.idle + 1)]) (A' := [Cells bx1 3 [.int .i64 z], Cells g 43 [.slice A n c0, .slice (some ⟨gl, 0, none⟩) n n, .slice (some ⟨gd, 0, none⟩) n n, .slice Sx2 (s.did.length + 1) cx3, .slice (some ⟨gm, 0, none⟩) n n, .int .i64 (s.idle + 1)], Grow (some ⟨gl, 0, none⟩) n 3 1 n (ints a1), Grow (some ⟨gd, 0, none⟩) n 3 1 n (ints b1), Grow (some ⟨gm, 0, none⟩) n 3 1 n (ints c1), B, Grow Sx2 cx3 3 1 (s.did.length + 1) (ints (s.did ++ [z]))]) rfl (by intro u; kernel_rfl) rfl (by kernel_rfl) rfl rfl (Wr.cells rfl rfl) rfl ?_)
  refine SOps.nil (.inl rfl) ?_
  refine At.pick [] (e' := []) (by kernel_rfl) ?_
  refine At.ret0 (fn := Try.f13)   (by kernel_rfl) Try.func13 (by kernel_rfl)  (fun F w ho => ?_)
  have e : tickR l n t s = ⟨a1, b1, c1, s.did ++ [z], s.idle + 1⟩ := by unfold tickR; rw [hcr]; simp only; rw [hz, if_pos (by omega)]
  rw [e] at hs1
  cases hs1
  refine shutX (Sx2, cx3) rfl trivial [1, 1, 1, 1, 2, 1] (D := [Cells bx1 3 [.int .i64 z]]) ?_ ho
  simp only [List.length_append, List.length_cons, List.length_nil]
  rfl
 ·have hx4 : z ≥ 0 := by simpa using hx4
  refine At.cond 300 false (c := .tmp 23) (k1 := pt13_5) (k2 := pt13_6) (by kernel_rfl) (by intro u; kernel_rfl) (fun h => by cases h) (fun _ => ?_)
  refine At.pick [0, 4] (e' := [(0, .pointer (some ⟨g, 0, none⟩)), (4, .int .i64 z)]) (by kernel_rfl) ?_
  refine At.region (ops := opt13_6) (m := 10) (k' := []) (by kernel_rfl) 300 (k'' := ([] : List Item)) (by kernel_rfl) ?_
  refine SOps.pures 3 (i' := 3) (m' := 7) (e' := [(35, .pointer (some ⟨g, 1, none⟩)), (34, .pointer (some ⟨g, 0, none⟩)), (33, .pointer (some ⟨g, 0, none⟩)), (0, .pointer (some ⟨g, 0, none⟩)), (4, .int .i64 z)]) (by intro u; kernel_rfl) ?_
  refine SOps.v (Val.ld1 1 36 24 g 1 (.slice (some ⟨gl, 0, none⟩) n n) rfl (by intro u; kernel_rfl) (by kernel_rfl) (Rd.cells rfl)) ?_
  refine SOps.pures 1 (i' := 5) (m' := 5) (e' := [(37, .int .i64 z), (36, .slice (some ⟨gl, 0, none⟩) n n), (35, .pointer (some ⟨g, 1, none⟩)), (34, .pointer (some ⟨g, 0, none⟩)), (33, .pointer (some ⟨g, 0, none⟩)), (0, .pointer (some ⟨g, 0, none⟩)), (4, .int .i64 z)]) (by intro u; kernel_rfl) ?_
  refine SOps.v (Val.pv 38 (vN (Instr.indexAt 24 (.slice (some ⟨gl, 0, none⟩) n n) (.int .i64 z))) (.pointer (some ⟨gl, z.toNat, none⟩)) (by intro u; kernel_rfl) (pv_index (el := 3) (sz := 1) (by kernel_rfl) (by kernel_rfl) (by omega) (by omega) (by omega))) ?_
  refine SOps.v (Val.ld1 2 39 3 gl z.toNat (.int .i64 (a1.getD z.toNat 0)) rfl (by intro u; kernel_rfl) (by kernel_rfl) (Rd.grow (S := (some ⟨gl, 0, none⟩)) (ints_get (by omega)))) ?_
  refine SOps.v (Val.pe 40 (.int .i64 (IntKind.i64.wrap ((a1.getD z.toNat 0) - 1))) (.int .i64 ((a1.getD z.toNat 0) - 1)) (by intro u; kernel_rfl) (i64_in rfl (by omega) (by omega))) ?_
  refine SOps.v (Val.pv 41 (vN (Instr.indexAt 24 (.slice (some ⟨gl, 0, none⟩) n n) (.int .i64 z))) (.pointer (some ⟨gl, z.toNat, none⟩)) (by intro u; kernel_rfl) (pv_index (el := 3) (sz := 1) (by kernel_rfl) (by kernel_rfl) (by omega) (by omega) (by omega))) ?_
  refine SOps.o (Op.st 2 3 gl z.toNat (.int .i64 ((a1.getD z.toNat 0) - 1)) [.int .i64 ((a1.getD z.toNat 0) - 1)] 1 (B' := Grow (some ⟨gl, 0, none⟩) n 3 1 n (ints (a1.set z.toNat ((a1.getD z.toNat 0) - 1)))) (A' := [Cells bx1 3 [.int .i64 z], Cells g 43 [.slice A n c0, .slice (some ⟨gl, 0, none⟩) n n, .slice (some ⟨gd, 0, none⟩) n n, .slice Sx2 (s.did.length + 1) cx3, .slice (some ⟨gm, 0, none⟩) n n, .int .i64 s.idle], Grow (some ⟨gl, 0, none⟩) n 3 1 n (ints (a1.set z.toNat ((a1.getD z.toNat 0) - 1))), Grow (some ⟨gd, 0, none⟩) n 3 1 n (ints b1), Grow (some ⟨gm, 0, none⟩) n 3 1 n (ints c1), B, Grow Sx2 cx3 3 1 (s.did.length + 1) (ints (s.did ++ [z]))]) rfl (by intro u; kernel_rfl) rfl (by kernel_rfl) rfl rfl (Wr.grow (S := (some ⟨gl, 0, none⟩)) (by simp) (by simp only [ints_len, List.length_cons, List.length_nil]; omega) ints_upd) rfl ?_)
  refine SOps.nil (.inl rfl) ?_
  refine At.ret0 (fn := Try.f13)   (by kernel_rfl) Try.func13 (by kernel_rfl)  (fun F w ho => ?_)
  have e : tickR l n t s = ⟨a1.set z.toNat (a1.getD z.toNat 0 - 1), b1, c1, s.did ++ [z], s.idle⟩ := by unfold tickR; rw [hcr]; simp only; rw [hz, if_neg (by omega)]
  rw [e] at hs1
  cases hs1
  refine shutX (Sx2, cx3) rfl trivial [1, 1, 1, 1, 2, 1] (D := [Cells bx1 3 [.int .i64 z]]) ?_ ho
  simp only [List.length_append, List.length_cons, List.length_nil]
  rfl
end Go.Proofs.Dl
