/- Leases: what is held, the next. -/
import Derived.Test.YtdibbcmfgdgdfaaLeK
namespace Go.Proofs.Le
open Go Go.Sp Go.Le
set_option linter.unusedVariables false
set_option linter.unusedSimpArgs false
set_option linter.unnecessarySimpa false
set_option maxRecDepth 100000
theorem el_30 : ElemT Try.prog 30 3 1 8 [.int .i64 0] := ⟨by kernel_rfl, _, _, (by kernel_rfl : _ = some Try.t3), (by kernel_rfl : _ = some (.int .i64 0)), by kernel_rfl, by kernel_rfl, rfl, rfl, by decide⟩
noncomputable def bd8 : Code := (Try.f8.body).getD .skip
noncomputable def kt8_0 : List Item := .code (pick [1, 1, 1] bd8) :: []
noncomputable def kt8_1 : List Item := .inBlock 0 :: kt8_0
noncomputable def kt8_2 : List Item := .inLoop (pick [1, 1, 0, 1, 0, 0] bd8) :: kt8_1
noncomputable def kt8_3 : List Item := .code (pick [1, 1, 0, 1, 0, 0, 1] bd8) :: kt8_2
noncomputable def pt8_0 : List Item := .code (pick [1, 1, 0, 1, 0, 0, 0] bd8) :: kt8_3
noncomputable def opt8_0 : Array Oper := opsOf (pick [1, 1, 0, 1, 0, 0, 0] bd8)
noncomputable def kt8_4 : List Item := .code (pick [1, 1, 0, 1, 0, 0, 1, 1] bd8) :: kt8_2
noncomputable def pt8_1 : List Item := .code (pick [1, 1, 0, 1, 0, 0, 1, 0] bd8) :: kt8_4
noncomputable def kt8_5 : List Item := .code (pick [1, 1, 0, 1, 0, 0, 1, 1, 1] bd8) :: kt8_2
noncomputable def kt8_6 : List Item := .inBlock 1 :: kt8_5
noncomputable def kt8_7 : List Item := .code (pick [1, 1, 0, 1, 0, 0, 1, 1, 0, 0, 1] bd8) :: kt8_6
noncomputable def pt8_2 : List Item := .code (pick [1, 1, 0, 1, 0, 0, 1, 1, 0, 0, 0] bd8) :: kt8_7
noncomputable def opt8_2 : Array Oper := opsOf (pick [1, 1, 0, 1, 0, 0, 1, 1, 0, 0, 0] bd8)
noncomputable def kt8_8 : List Item := .code (pick [1, 1, 1, 1] bd8) :: []
noncomputable def pt8_3 : List Item := .code (pick [1, 1, 1, 0] bd8) :: kt8_8
noncomputable def opt8_3 : Array Oper := opsOf (pick [1, 1, 1, 0] bd8)
noncomputable def kt8_9 : List Item := .code (pick [1, 1, 0, 1, 0, 0, 1, 1, 0, 0, 1, 1] bd8) :: kt8_6
noncomputable def pt8_4 : List Item := .code (pick [1, 1, 0, 1, 0, 0, 1, 1, 0, 0, 1, 0] bd8) :: kt8_9
noncomputable def opt8_4 : Array Oper := opsOf (pick [1, 1, 0, 1, 0, 0, 1, 1, 0, 0, 1, 0] bd8)
noncomputable def kt8_10 : List Item := .code (pick [1, 1, 0, 1, 0, 0, 1, 1, 0, 0, 1, 1, 1] bd8) :: kt8_6
noncomputable def pt8_5 : List Item := .code (pick [1, 1, 0, 1, 0, 0, 1, 1, 0, 0, 1, 1, 0] bd8) :: kt8_10
noncomputable def opt8_5 : Array Oper := opsOf (pick [1, 1, 0, 1, 0, 0, 1, 1, 0, 0, 1, 1, 0] bd8)
noncomputable def pt8_6 : List Item := .code (pick [1, 1, 0, 1, 0, 0, 1, 1, 0, 0, 1, 1, 1] bd8) :: kt8_6
noncomputable def pt8_7 : List Item := .code (pick [1, 1, 0, 1, 0, 0, 1, 1, 0, 0, 1, 1, 1, 0] bd8) :: kt8_6
noncomputable def opt8_7 : Array Oper := opsOf (pick [1, 1, 0, 1, 0, 0, 1, 1, 0, 0, 1, 1, 1, 0] bd8)
noncomputable def pt8_8 : List Item := .code (pick [1, 1, 0, 1, 0, 0, 1, 1, 1] bd8) :: kt8_2
noncomputable def opt8_8 : Array Oper := opsOf (pick [1, 1, 0, 1, 0, 0, 1, 1, 1] bd8)
noncomputable def pt8_9 : List Item := .code (pick [1, 1, 1, 1] bd8) :: []
noncomputable def kt8_11 : List Item := .code (pick [1] bd8) :: []
noncomputable def pt8_10 : List Item := .code (pick [0] bd8) :: kt8_11
noncomputable def opt8_10 : Array Oper := opsOf (pick [0] bd8)
noncomputable def kt8_12 : List Item := .code (pick [1, 1] bd8) :: []
noncomputable def pt8_11 : List Item := .code (pick [1, 0] bd8) :: kt8_12
noncomputable def opt8_11 : Array Oper := opsOf (pick [1, 0] bd8)
noncomputable def kt8_13 : List Item := .code (pick [1, 1, 0, 1] bd8) :: kt8_0
noncomputable def pt8_12 : List Item := .code (pick [1, 1, 0, 0] bd8) :: kt8_13
noncomputable def opt8_12 : Array Oper := opsOf (pick [1, 1, 0, 0] bd8)
theorem heldAll_loop (d : Nat) (s : De) (t : Int) (hs : s.tick t = s) : ∀ (mm k n : Nat) (S : Option Addr) (cap : Nat) (l : List Int), 256 - k < mm → k ≤ 256 → n = cntP s.held k → l.length = n → At ⟨Try.prog, 8, (fun v' => ex fun x : Option Addr × Nat => fact (v' = .slice x.1 (cntP s.held 256) x.2) :: fact True :: [DeskC d s]), 26, false⟩ pt8_0 [(0, .pointer (some ⟨d, 0, none⟩)), (1, .int .i64 t), (5, .slice S n cap), (9, .int .i64 (k : Int))] [DeskC d s, Grow S cap 3 1 n (ints l)] := by
 intro mm
 induction mm with
 | zero => intro k n S cap l h; omega
 | succ mm ih =>
  intro k n S cap l hm hk hn hl
  have hcl : n ≤ k := by rw [hn]; exact cntP_le s.held k
  refine At.region (ops := opt8_0) (m := 1) (k' := kt8_3) (by kernel_rfl) 300 (k'' := pt8_1) (by kernel_rfl) ?_
  refine SOps.pures 1 (i' := 1) (m' := 0) (e' := [(10, .bool (decide ((k : Int) < 256))), (0, .pointer (some ⟨d, 0, none⟩)), (1, .int .i64 t), (5, .slice S n cap), (9, .int .i64 (k : Int))]) (by intro u; kernel_rfl) ?_
  refine SOps.nil (.inl rfl) ?_
  refine At.pick [0, 1, 5, 9, 10] (e' := [(0, .pointer (some ⟨d, 0, none⟩)), (1, .int .i64 t), (5, .slice S n cap), (9, .int .i64 (k : Int)), (10, .bool (decide ((k : Int) < 256)))]) (by kernel_rfl) ?_
  refine At.split (fun zq => [(0, .pointer (some ⟨d, 0, none⟩)), (1, .int .i64 t), (5, .slice S n cap), (9, .int .i64 (k : Int)), (10, .bool zq)]) (decide ((k : Int) < 256)) (fun hx1 => ?_) (fun hx1 => ?_)
  ·have hx1 : (k : Int) < 256 := by simpa using hx1
   refine At.cond 300 true (c := .tmp 10) (k1 := pt8_2) (k2 := pt8_3) (by kernel_rfl) (by intro u; kernel_rfl) (fun _ => ?_) (fun h => by cases h)
   refine At.pick [0, 1, 5, 9] (e' := [(0, .pointer (some ⟨d, 0, none⟩)), (1, .int .i64 t), (5, .slice S n cap), (9, .int .i64 (k : Int))]) (by kernel_rfl) ?_
   refine At.region (ops := opt8_2) (m := 2) (k' := kt8_7) (by kernel_rfl) 300 (k'' := pt8_4) (by kernel_rfl) ?_
   refine SOps.pures 2 (i' := 2) (m' := 0) (e' := [(6, .int .i64 (k : Int)), (11, .int .i64 (k : Int)), (0, .pointer (some ⟨d, 0, none⟩)), (1, .int .i64 t), (5, .slice S n cap), (9, .int .i64 (k : Int))]) (by intro u; kernel_rfl) ?_
   refine SOps.nil (.inl rfl) ?_
   refine At.pick [0, 1, 5, 6, 9] (e' := [(0, .pointer (some ⟨d, 0, none⟩)), (1, .int .i64 t), (5, .slice S n cap), (6, .int .i64 (k : Int)), (9, .int .i64 (k : Int))]) (by kernel_rfl) ?_
   cases hh : (s.tick t).held k with
   | false =>
    refine At.region (ops := opt8_4) (m := 10) (k' := kt8_9) (by kernel_rfl) 300 (k'' := pt8_5) (by kernel_rfl) ?_
    refine SOps.pures 3 (i' := 3) (m' := 7) (e' := [(15, .int .i64 (k : Int)), (14, .int .i64 t), (13, .pointer (some ⟨d, 0, none⟩)), (0, .pointer (some ⟨d, 0, none⟩)), (1, .int .i64 t), (5, .slice S n cap), (6, .int .i64 (k : Int)), (9, .int .i64 (k : Int))]) (by intro u; kernel_rfl) ?_
    have hc := ofNo d s t (k : Int) (by omega) (by omega) hh
    rw [hs] at hc
    refine SOps.o (Op.callS 16 7 #[.pointer (some ⟨d, 0, none⟩), .int .i64 t, .int .i64 (k : Int)] (.tuple #[.agg #[.int .i64 0, .int .i64 0, .int .i64 0], .bool false]) [0] (B := [DeskC d s]) (D := [Grow S cap 3 1 n (ints l)]) (by intro u; kernel_rfl) (hc) (by first | exact .inr rfl | exact .inl rfl) (by kernel_rfl) ?_)
    refine SOps.pures 3 (i' := 7) (m' := 3) (e' := [(18, .bool false), (17, .agg #[.int .i64 0, .int .i64 0, .int .i64 0]), (12, .tuple #[.agg #[.int .i64 0, .int .i64 0, .int .i64 0], .bool false]), (16, .tuple #[.agg #[.int .i64 0, .int .i64 0, .int .i64 0], .bool false]), (15, .int .i64 (k : Int)), (14, .int .i64 t), (13, .pointer (some ⟨d, 0, none⟩)), (0, .pointer (some ⟨d, 0, none⟩)), (1, .int .i64 t), (5, .slice S n cap), (6, .int .i64 (k : Int)), (9, .int .i64 (k : Int))]) (by intro u; kernel_rfl) ?_
    refine SOps.o (Op.new 7 27 [.int .i64 0, .int .i64 0, .int .i64 0] (fun b => .pointer (some ⟨b, 0, none⟩)) (by intro u b; kernel_rfl) ?_)
    intro bx2
    refine SOps.o (Op.st 0 27 bx2 0 (.agg #[.int .i64 0, .int .i64 0, .int .i64 0]) [.int .i64 0, .int .i64 0, .int .i64 0] 3 (B' := Cells bx2 27 [.int .i64 0, .int .i64 0, .int .i64 0]) (A' := [Cells bx2 27 [.int .i64 0, .int .i64 0, .int .i64 0], DeskC d s, Grow S cap 3 1 n (ints l)]) rfl (by intro u; kernel_rfl) rfl (by kernel_rfl) rfl rfl (Wr.cells rfl rfl) rfl ?_)
    refine SOps.pures 1 (i' := 10) (m' := 0) (e' := [(8, .bool false), (7, .pointer (some ⟨bx2, 0, none⟩)), (18, .bool false), (17, .agg #[.int .i64 0, .int .i64 0, .int .i64 0]), (12, .tuple #[.agg #[.int .i64 0, .int .i64 0, .int .i64 0], .bool false]), (16, .tuple #[.agg #[.int .i64 0, .int .i64 0, .int .i64 0], .bool false]), (15, .int .i64 (k : Int)), (14, .int .i64 t), (13, .pointer (some ⟨d, 0, none⟩)), (0, .pointer (some ⟨d, 0, none⟩)), (1, .int .i64 t), (5, .slice S n cap), (6, .int .i64 (k : Int)), (9, .int .i64 (k : Int))]) (by intro u; kernel_rfl) ?_
    refine SOps.nil (.inl rfl) ?_
    refine At.pick [0, 1, 5, 6, 8, 9] (e' := [(0, .pointer (some ⟨d, 0, none⟩)), (1, .int .i64 t), (5, .slice S n cap), (6, .int .i64 (k : Int)), (8, .bool false), (9, .int .i64 (k : Int))]) (by kernel_rfl) ?_
    refine At.region (ops := opt8_5) (m := 1) (k' := kt8_10) (by kernel_rfl) 300 (k'' := pt8_6) (by kernel_rfl) ?_
    refine SOps.pures 1 (i' := 1) (m' := 0) (e' := [(19, .bool false), (0, .pointer (some ⟨d, 0, none⟩)), (1, .int .i64 t), (5, .slice S n cap), (6, .int .i64 (k : Int)), (8, .bool false), (9, .int .i64 (k : Int))]) (by intro u; kernel_rfl) ?_
    refine SOps.nil (.inl rfl) ?_
    refine At.pick [0, 1, 5, 6, 9, 19] (e' := [(0, .pointer (some ⟨d, 0, none⟩)), (1, .int .i64 t), (5, .slice S n cap), (6, .int .i64 (k : Int)), (9, .int .i64 (k : Int)), (19, .bool false)]) (by kernel_rfl) ?_
    refine At.cond 300 false (c := .tmp 19) (k1 := pt8_7) (k2 := pt8_8) (by kernel_rfl) (by intro u; kernel_rfl) (fun h => by cases h) (fun _ => ?_)
    refine At.pick [0, 1, 5, 9] (e' := [(0, .pointer (some ⟨d, 0, none⟩)), (1, .int .i64 t), (5, .slice S n cap), (9, .int .i64 (k : Int))]) (by kernel_rfl) ?_
    refine At.region (ops := opt8_8) (m := 2) (k' := kt8_2) (by kernel_rfl) 300 (k'' := pt8_0) (by kernel_rfl) ?_
    refine SOps.v (Val.pe 24 (.int .i64 (IntKind.i64.wrap ((k : Int) + 1))) (.int .i64 ((k + 1 : Nat) : Int)) (by intro u; kernel_rfl) (i64_in (by omega) (by omega) (by omega))) ?_
    refine SOps.pures 1 (i' := 2) (m' := 0) (e' := [(9, .int .i64 ((k + 1 : Nat) : Int)), (24, .int .i64 ((k + 1 : Nat) : Int)), (0, .pointer (some ⟨d, 0, none⟩)), (1, .int .i64 t), (5, .slice S n cap), (9, .int .i64 (k : Int))]) (by intro u; kernel_rfl) ?_
    refine SOps.nil (.inl rfl) ?_
    refine At.pick [0, 1, 5, 9] (e' := [(0, .pointer (some ⟨d, 0, none⟩)), (1, .int .i64 t), (5, .slice S n cap), (9, .int .i64 ((k + 1 : Nat) : Int))]) (by kernel_rfl) ?_
    refine At.keep [1, 1] (B := [DeskC d s, Grow S cap 3 1 n (ints l)]) (D := [Cells bx2 27 [.int .i64 0, .int .i64 0, .int .i64 0]]) rfl ?_
    exact ih (k + 1) n S cap _ (by omega) (by omega) (by simp only [cntP]; rw [show s.held k = _ from (held_tick s t k hs) ▸ hh]; simp; omega) (by first | exact hl | (simp; omega))
   | true =>
    refine At.region (ops := opt8_4) (m := 10) (k' := kt8_9) (by kernel_rfl) 300 (k'' := pt8_5) (by kernel_rfl) ?_
    refine SOps.pures 3 (i' := 3) (m' := 7) (e' := [(15, .int .i64 (k : Int)), (14, .int .i64 t), (13, .pointer (some ⟨d, 0, none⟩)), (0, .pointer (some ⟨d, 0, none⟩)), (1, .int .i64 t), (5, .slice S n cap), (6, .int .i64 (k : Int)), (9, .int .i64 (k : Int))]) (by intro u; kernel_rfl) ?_
    have hc := ofYes d s t (k : Int) (by omega) (by omega) hh
    rw [hs] at hc
    refine SOps.o (Op.callS 16 7 #[.pointer (some ⟨d, 0, none⟩), .int .i64 t, .int .i64 (k : Int)] (.tuple #[.agg #[.int .i64 ((s.th k).who), .int .i64 ((s.th k).tok), .int .i64 ((s.th k).fin)], .bool true]) [0] (B := [DeskC d s]) (D := [Grow S cap 3 1 n (ints l)]) (by intro u; kernel_rfl) (hc) (by first | exact .inr rfl | exact .inl rfl) (by kernel_rfl) ?_)
    refine SOps.pures 3 (i' := 7) (m' := 3) (e' := [(18, .bool true), (17, .agg #[.int .i64 ((s.th k).who), .int .i64 ((s.th k).tok), .int .i64 ((s.th k).fin)]), (12, .tuple #[.agg #[.int .i64 ((s.th k).who), .int .i64 ((s.th k).tok), .int .i64 ((s.th k).fin)], .bool true]), (16, .tuple #[.agg #[.int .i64 ((s.th k).who), .int .i64 ((s.th k).tok), .int .i64 ((s.th k).fin)], .bool true]), (15, .int .i64 (k : Int)), (14, .int .i64 t), (13, .pointer (some ⟨d, 0, none⟩)), (0, .pointer (some ⟨d, 0, none⟩)), (1, .int .i64 t), (5, .slice S n cap), (6, .int .i64 (k : Int)), (9, .int .i64 (k : Int))]) (by intro u; kernel_rfl) ?_
    refine SOps.o (Op.new 7 27 [.int .i64 0, .int .i64 0, .int .i64 0] (fun b => .pointer (some ⟨b, 0, none⟩)) (by intro u b; kernel_rfl) ?_)
    intro bx2
    refine SOps.o (Op.st 0 27 bx2 0 (.agg #[.int .i64 ((s.th k).who), .int .i64 ((s.th k).tok), .int .i64 ((s.th k).fin)]) [.int .i64 ((s.th k).who), .int .i64 ((s.th k).tok), .int .i64 ((s.th k).fin)] 3 (B' := Cells bx2 27 [.int .i64 ((s.th k).who), .int .i64 ((s.th k).tok), .int .i64 ((s.th k).fin)]) (A' := [Cells bx2 27 [.int .i64 ((s.th k).who), .int .i64 ((s.th k).tok), .int .i64 ((s.th k).fin)], DeskC d s, Grow S cap 3 1 n (ints l)]) rfl (by intro u; kernel_rfl) rfl (by kernel_rfl) rfl rfl (Wr.cells rfl rfl) rfl ?_)
    refine SOps.pures 1 (i' := 10) (m' := 0) (e' := [(8, .bool true), (7, .pointer (some ⟨bx2, 0, none⟩)), (18, .bool true), (17, .agg #[.int .i64 ((s.th k).who), .int .i64 ((s.th k).tok), .int .i64 ((s.th k).fin)]), (12, .tuple #[.agg #[.int .i64 ((s.th k).who), .int .i64 ((s.th k).tok), .int .i64 ((s.th k).fin)], .bool true]), (16, .tuple #[.agg #[.int .i64 ((s.th k).who), .int .i64 ((s.th k).tok), .int .i64 ((s.th k).fin)], .bool true]), (15, .int .i64 (k : Int)), (14, .int .i64 t), (13, .pointer (some ⟨d, 0, none⟩)), (0, .pointer (some ⟨d, 0, none⟩)), (1, .int .i64 t), (5, .slice S n cap), (6, .int .i64 (k : Int)), (9, .int .i64 (k : Int))]) (by intro u; kernel_rfl) ?_
    refine SOps.nil (.inl rfl) ?_
    refine At.pick [0, 1, 5, 6, 8, 9] (e' := [(0, .pointer (some ⟨d, 0, none⟩)), (1, .int .i64 t), (5, .slice S n cap), (6, .int .i64 (k : Int)), (8, .bool true), (9, .int .i64 (k : Int))]) (by kernel_rfl) ?_
    refine At.region (ops := opt8_5) (m := 1) (k' := kt8_10) (by kernel_rfl) 300 (k'' := pt8_6) (by kernel_rfl) ?_
    refine SOps.pures 1 (i' := 1) (m' := 0) (e' := [(19, .bool true), (0, .pointer (some ⟨d, 0, none⟩)), (1, .int .i64 t), (5, .slice S n cap), (6, .int .i64 (k : Int)), (8, .bool true), (9, .int .i64 (k : Int))]) (by intro u; kernel_rfl) ?_
    refine SOps.nil (.inl rfl) ?_
    refine At.pick [0, 1, 5, 6, 9, 19] (e' := [(0, .pointer (some ⟨d, 0, none⟩)), (1, .int .i64 t), (5, .slice S n cap), (6, .int .i64 (k : Int)), (9, .int .i64 (k : Int)), (19, .bool true)]) (by kernel_rfl) ?_
    refine At.cond 300 true (c := .tmp 19) (k1 := pt8_7) (k2 := pt8_8) (by kernel_rfl) (by intro u; kernel_rfl) (fun _ => ?_) (fun h => by cases h)
    refine At.pick [0, 1, 5, 6, 9] (e' := [(0, .pointer (some ⟨d, 0, none⟩)), (1, .int .i64 t), (5, .slice S n cap), (6, .int .i64 (k : Int)), (9, .int .i64 (k : Int))]) (by kernel_rfl) ?_
    refine At.region (ops := opt8_7) (m := 5) (k' := kt8_6) (by kernel_rfl) 300 (k'' := pt8_8) (by kernel_rfl) ?_
    refine SOps.pures 2 (i' := 2) (m' := 3) (e' := [(21, .int .i64 (k : Int)), (20, .slice S n cap), (0, .pointer (some ⟨d, 0, none⟩)), (1, .int .i64 t), (5, .slice S n cap), (6, .int .i64 (k : Int)), (9, .int .i64 (k : Int))]) (by intro u; kernel_rfl) ?_
    refine SOps.o (Op.new 22 3 [.int .i64 (k : Int)] (fun b => .slice (some ⟨b, 0, none⟩) 1 1) (by intro u b; kernel_rfl) ?_)
    intro bx3
    refine SOps.o (Op.appS 3 0 23 (sz := 1) (bytes := 8) (ty := 30) el_30 (ints ([(k : Int)])) (ints (l ++ [(k : Int)])) (n := n) (q := 1) (c := 1) (r := (n + 1)) (by omega) rfl rfl (by intro u; kernel_rfl) (by rw [ints_len] <;> first | omega | (simp only [List.length_cons, List.length_nil]; done) | (simp only [List.length_append, List.length_take, List.length_drop, List.length_cons, List.length_nil, List.length_set]; omega)) SrcOf.cells (by simp [ints, oneC]) (by unfold maxLen; omega) (by omega) (by simp [ints]) ?_)
    intro Sx4 cx5
    refine SOps.pures 1 (i' := 5) (m' := 0) (e' := [(5, .slice Sx4 (n + 1) cx5), (23, .slice Sx4 (n + 1) cx5), (22, .slice (some ⟨bx3, 0, none⟩) 1 1), (21, .int .i64 (k : Int)), (20, .slice S n cap), (0, .pointer (some ⟨d, 0, none⟩)), (1, .int .i64 t), (5, .slice S n cap), (6, .int .i64 (k : Int)), (9, .int .i64 (k : Int))]) (by intro u; kernel_rfl) ?_
    refine SOps.nil (.inl rfl) ?_
    refine At.pick [0, 1, 5, 9] (e' := [(0, .pointer (some ⟨d, 0, none⟩)), (1, .int .i64 t), (5, .slice Sx4 (n + 1) cx5), (9, .int .i64 (k : Int))]) (by kernel_rfl) ?_
    refine At.region (ops := opt8_8) (m := 2) (k' := kt8_2) (by kernel_rfl) 300 (k'' := pt8_0) (by kernel_rfl) ?_
    refine SOps.v (Val.pe 24 (.int .i64 (IntKind.i64.wrap ((k : Int) + 1))) (.int .i64 ((k + 1 : Nat) : Int)) (by intro u; kernel_rfl) (i64_in (by omega) (by omega) (by omega))) ?_
    refine SOps.pures 1 (i' := 2) (m' := 0) (e' := [(9, .int .i64 ((k + 1 : Nat) : Int)), (24, .int .i64 ((k + 1 : Nat) : Int)), (0, .pointer (some ⟨d, 0, none⟩)), (1, .int .i64 t), (5, .slice Sx4 (n + 1) cx5), (9, .int .i64 (k : Int))]) (by intro u; kernel_rfl) ?_
    refine SOps.nil (.inl rfl) ?_
    refine At.pick [0, 1, 5, 9] (e' := [(0, .pointer (some ⟨d, 0, none⟩)), (1, .int .i64 t), (5, .slice Sx4 (n + 1) cx5), (9, .int .i64 ((k + 1 : Nat) : Int))]) (by kernel_rfl) ?_
    refine At.keep [2, 2] (B := [DeskC d s, Grow Sx4 cx5 3 1 (n + 1) (ints (l ++ [(k : Int)]))]) (D := [Cells bx3 3 [.int .i64 (k : Int)], Cells bx2 27 [.int .i64 ((s.th k).who), .int .i64 ((s.th k).tok), .int .i64 ((s.th k).fin)]]) rfl ?_
    exact ih (k + 1) (n + 1) Sx4 cx5 _ (by omega) (by omega) (by simp only [cntP]; rw [show s.held k = _ from (held_tick s t k hs) ▸ hh]; simp; omega) (by first | exact hl | (simp; omega))
  ·have hx1 : (k : Int) ≥ 256 := by simpa using hx1
   refine At.cond 300 false (c := .tmp 10) (k1 := pt8_2) (k2 := pt8_3) (by kernel_rfl) (by intro u; kernel_rfl) (fun h => by cases h) (fun _ => ?_)
   refine At.pick [5] (e' := [(5, .slice S n cap)]) (by kernel_rfl) ?_
   refine At.region (ops := opt8_3) (m := 2) (k' := kt8_8) (by kernel_rfl) 300 (k'' := pt8_9) (by kernel_rfl) ?_
   refine SOps.pures 2 (i' := 2) (m' := 0) (e' := [(4, .slice S n cap), (25, .slice S n cap), (5, .slice S n cap)]) (by intro u; kernel_rfl) ?_
   refine SOps.nil (.inl rfl) ?_
   refine At.pick [4] (e' := [(4, .slice S n cap)]) (by kernel_rfl) ?_
   refine At.ret1 (fn := Try.f8) (v := .slice S n cap) (t := 4) (by kernel_rfl) Try.func8 (by kernel_rfl) (by kernel_rfl) (fun F w ho => ?_)
   obtain rfl : k = 256 := by omega
   exact shutX (p := fun _ => True) (S, cap) (by rw [hn]) trivial [0] rfl ho
theorem heldAll (d : Nat) (s : De) (t : Int) : Ctr Try.prog 8 #[.pointer (some ⟨d, 0, none⟩), .int .i64 t] [DeskC d s] (fun v' => ex fun x : Option Addr × Nat => fact (v' = .slice x.1 (cntP (s.tick t).held 256) x.2) :: fact True :: [DeskC d (s.tick t)]) false := by
 refine spec_of_at (fn := Try.f8) (c := bd8) (args := [.pointer (some ⟨d, 0, none⟩), .int .i64 t]) (n := 26) (e := [(0, .pointer (some ⟨d, 0, none⟩)), (1, .int .i64 t)]) (k := pt8_10) Try.func8 (by kernel_rfl) (by kernel_rfl) (by kernel_rfl) (by kernel_rfl) 300 (by kernel_rfl) ?_
 refine At.region (ops := opt8_10) (m := 1) (k' := kt8_11) (by kernel_rfl) 300 (k'' := pt8_11) (by kernel_rfl) ?_
 refine SOps.pures 1 (i' := 1) (m' := 0) (e' := [(4, .slice none 0 0), (0, .pointer (some ⟨d, 0, none⟩)), (1, .int .i64 t)]) (by intro u; kernel_rfl) ?_
 refine SOps.nil (.inl rfl) ?_
 refine At.pick [0, 1] (e' := [(0, .pointer (some ⟨d, 0, none⟩)), (1, .int .i64 t)]) (by kernel_rfl) ?_
 refine At.region (ops := opt8_11) (m := 1) (k' := kt8_12) (by kernel_rfl) 300 (k'' := pt8_12) (by kernel_rfl) ?_
 refine SOps.pures 1 (i' := 1) (m' := 0) (e' := [(5, .slice none 0 0), (0, .pointer (some ⟨d, 0, none⟩)), (1, .int .i64 t)]) (by intro u; kernel_rfl) ?_
 refine SOps.nil (.inl rfl) ?_
 refine At.pick [0, 1, 5] (e' := [(0, .pointer (some ⟨d, 0, none⟩)), (1, .int .i64 t), (5, .slice none 0 0)]) (by kernel_rfl) ?_
 refine At.region (ops := opt8_12) (m := 1) (k' := kt8_13) (by kernel_rfl) 300 (k'' := pt8_0) (by kernel_rfl) ?_
 refine SOps.pures 1 (i' := 1) (m' := 0) (e' := [(9, .int .i64 0), (0, .pointer (some ⟨d, 0, none⟩)), (1, .int .i64 t), (5, .slice none 0 0)]) (by intro u; kernel_rfl) ?_
 refine SOps.nil (.inl rfl) ?_
 refine At.pick [0, 1, 5, 9] (e' := [(0, .pointer (some ⟨d, 0, none⟩)), (1, .int .i64 t), (5, .slice none 0 0), (9, .int .i64 0)]) (by kernel_rfl) ?_
 refine At.region (ops := opt8_0) (m := 1) (k' := kt8_3) (by kernel_rfl) 300 (k'' := pt8_1) (by kernel_rfl) ?_
 refine SOps.pures 1 (i' := 1) (m' := 0) (e' := [(10, .bool true), (0, .pointer (some ⟨d, 0, none⟩)), (1, .int .i64 t), (5, .slice none 0 0), (9, .int .i64 0)]) (by intro u; kernel_rfl) ?_
 refine SOps.nil (.inl rfl) ?_
 refine At.pick [0, 1, 5, 9, 10] (e' := [(0, .pointer (some ⟨d, 0, none⟩)), (1, .int .i64 t), (5, .slice none 0 0), (9, .int .i64 0), (10, .bool true)]) (by kernel_rfl) ?_
 refine At.cond 300 true (c := .tmp 10) (k1 := pt8_2) (k2 := pt8_3) (by kernel_rfl) (by intro u; kernel_rfl) (fun _ => ?_) (fun h => by cases h)
 refine At.pick [0, 1, 5, 9] (e' := [(0, .pointer (some ⟨d, 0, none⟩)), (1, .int .i64 t), (5, .slice none 0 0), (9, .int .i64 0)]) (by kernel_rfl) ?_
 refine At.region (ops := opt8_2) (m := 2) (k' := kt8_7) (by kernel_rfl) 300 (k'' := pt8_4) (by kernel_rfl) ?_
 refine SOps.pures 2 (i' := 2) (m' := 0) (e' := [(6, .int .i64 0), (11, .int .i64 0), (0, .pointer (some ⟨d, 0, none⟩)), (1, .int .i64 t), (5, .slice none 0 0), (9, .int .i64 0)]) (by intro u; kernel_rfl) ?_
 refine SOps.nil (.inl rfl) ?_
 refine At.pick [0, 1, 5, 6, 9] (e' := [(0, .pointer (some ⟨d, 0, none⟩)), (1, .int .i64 t), (5, .slice none 0 0), (6, .int .i64 0), (9, .int .i64 0)]) (by kernel_rfl) ?_
 cases hh : (s.tick t).held 0 with
 | false =>
  refine At.region (ops := opt8_4) (m := 10) (k' := kt8_9) (by kernel_rfl) 300 (k'' := pt8_5) (by kernel_rfl) ?_
  refine SOps.pures 3 (i' := 3) (m' := 7) (e' := [(15, .int .i64 0), (14, .int .i64 t), (13, .pointer (some ⟨d, 0, none⟩)), (0, .pointer (some ⟨d, 0, none⟩)), (1, .int .i64 t), (5, .slice none 0 0), (6, .int .i64 0), (9, .int .i64 0)]) (by intro u; kernel_rfl) ?_
  refine SOps.o (Op.callS 16 7 #[.pointer (some ⟨d, 0, none⟩), .int .i64 t, .int .i64 0] (.tuple #[.agg #[.int .i64 0, .int .i64 0, .int .i64 0], .bool false]) [0] (B := [DeskC d s]) (D := []) (by intro u; kernel_rfl) (ofNo d s t 0 (by omega) (by omega) hh) (by first | exact .inr rfl | exact .inl rfl) (by kernel_rfl) ?_)
  refine SOps.pures 3 (i' := 7) (m' := 3) (e' := [(18, .bool false), (17, .agg #[.int .i64 0, .int .i64 0, .int .i64 0]), (12, .tuple #[.agg #[.int .i64 0, .int .i64 0, .int .i64 0], .bool false]), (16, .tuple #[.agg #[.int .i64 0, .int .i64 0, .int .i64 0], .bool false]), (15, .int .i64 0), (14, .int .i64 t), (13, .pointer (some ⟨d, 0, none⟩)), (0, .pointer (some ⟨d, 0, none⟩)), (1, .int .i64 t), (5, .slice none 0 0), (6, .int .i64 0), (9, .int .i64 0)]) (by intro u; kernel_rfl) ?_
  refine SOps.o (Op.new 7 27 [.int .i64 0, .int .i64 0, .int .i64 0] (fun b => .pointer (some ⟨b, 0, none⟩)) (by intro u b; kernel_rfl) ?_)
  intro bx1
  refine SOps.o (Op.st 0 27 bx1 0 (.agg #[.int .i64 0, .int .i64 0, .int .i64 0]) [.int .i64 0, .int .i64 0, .int .i64 0] 3 (B' := Cells bx1 27 [.int .i64 0, .int .i64 0, .int .i64 0]) (A' := [Cells bx1 27 [.int .i64 0, .int .i64 0, .int .i64 0], DeskC d (s.tick t)]) rfl (by intro u; kernel_rfl) rfl (by kernel_rfl) rfl rfl (Wr.cells rfl rfl) rfl ?_)
  refine SOps.pures 1 (i' := 10) (m' := 0) (e' := [(8, .bool false), (7, .pointer (some ⟨bx1, 0, none⟩)), (18, .bool false), (17, .agg #[.int .i64 0, .int .i64 0, .int .i64 0]), (12, .tuple #[.agg #[.int .i64 0, .int .i64 0, .int .i64 0], .bool false]), (16, .tuple #[.agg #[.int .i64 0, .int .i64 0, .int .i64 0], .bool false]), (15, .int .i64 0), (14, .int .i64 t), (13, .pointer (some ⟨d, 0, none⟩)), (0, .pointer (some ⟨d, 0, none⟩)), (1, .int .i64 t), (5, .slice none 0 0), (6, .int .i64 0), (9, .int .i64 0)]) (by intro u; kernel_rfl) ?_
  refine SOps.nil (.inl rfl) ?_
  refine At.pick [0, 1, 5, 6, 8, 9] (e' := [(0, .pointer (some ⟨d, 0, none⟩)), (1, .int .i64 t), (5, .slice none 0 0), (6, .int .i64 0), (8, .bool false), (9, .int .i64 0)]) (by kernel_rfl) ?_
  refine At.region (ops := opt8_5) (m := 1) (k' := kt8_10) (by kernel_rfl) 300 (k'' := pt8_6) (by kernel_rfl) ?_
  refine SOps.pures 1 (i' := 1) (m' := 0) (e' := [(19, .bool false), (0, .pointer (some ⟨d, 0, none⟩)), (1, .int .i64 t), (5, .slice none 0 0), (6, .int .i64 0), (8, .bool false), (9, .int .i64 0)]) (by intro u; kernel_rfl) ?_
  refine SOps.nil (.inl rfl) ?_
  refine At.pick [0, 1, 5, 6, 9, 19] (e' := [(0, .pointer (some ⟨d, 0, none⟩)), (1, .int .i64 t), (5, .slice none 0 0), (6, .int .i64 0), (9, .int .i64 0), (19, .bool false)]) (by kernel_rfl) ?_
  refine At.cond 300 false (c := .tmp 19) (k1 := pt8_7) (k2 := pt8_8) (by kernel_rfl) (by intro u; kernel_rfl) (fun h => by cases h) (fun _ => ?_)
  refine At.pick [0, 1, 5, 9] (e' := [(0, .pointer (some ⟨d, 0, none⟩)), (1, .int .i64 t), (5, .slice none 0 0), (9, .int .i64 0)]) (by kernel_rfl) ?_
  refine At.region (ops := opt8_8) (m := 2) (k' := kt8_2) (by kernel_rfl) 300 (k'' := pt8_0) (by kernel_rfl) ?_
  refine SOps.pures 2 (i' := 2) (m' := 0) (e' := [(9, .int .i64 1), (24, .int .i64 1), (0, .pointer (some ⟨d, 0, none⟩)), (1, .int .i64 t), (5, .slice none 0 0), (9, .int .i64 0)]) (by intro u; kernel_rfl) ?_
  refine SOps.nil (.inl rfl) ?_
  refine At.pick [0, 1, 5, 9] (e' := [(0, .pointer (some ⟨d, 0, none⟩)), (1, .int .i64 t), (5, .slice none 0 0), (9, .int .i64 1)]) (by kernel_rfl) ?_
  refine At.conseq1 (fun F w ho => Grow.nil_ 3 1 ho) ?_
  refine At.keep [2, 0] (B := [DeskC d (s.tick t), Grow none 0 3 1 0 (ints ([]))]) (D := [Cells bx1 27 [.int .i64 0, .int .i64 0, .int .i64 0]]) rfl ?_
  exact heldAll_loop d (s.tick t) t (tick_tick s t) 256 1 0 none 0 ([]) (by omega) (by omega) (by simp [cntP]; exact hh ▸ rfl) (by first | rfl | (simp; done) | (simp; omega))
 | true =>
  refine At.region (ops := opt8_4) (m := 10) (k' := kt8_9) (by kernel_rfl) 300 (k'' := pt8_5) (by kernel_rfl) ?_
  refine SOps.pures 3 (i' := 3) (m' := 7) (e' := [(15, .int .i64 0), (14, .int .i64 t), (13, .pointer (some ⟨d, 0, none⟩)), (0, .pointer (some ⟨d, 0, none⟩)), (1, .int .i64 t), (5, .slice none 0 0), (6, .int .i64 0), (9, .int .i64 0)]) (by intro u; kernel_rfl) ?_
  refine SOps.o (Op.callS 16 7 #[.pointer (some ⟨d, 0, none⟩), .int .i64 t, .int .i64 0] (.tuple #[.agg #[.int .i64 ((s.th 0).who), .int .i64 ((s.th 0).tok), .int .i64 ((s.th 0).fin)], .bool true]) [0] (B := [DeskC d s]) (D := []) (by intro u; kernel_rfl) (ofYes d s t 0 (by omega) (by omega) hh) (by first | exact .inr rfl | exact .inl rfl) (by kernel_rfl) ?_)
  refine SOps.pures 3 (i' := 7) (m' := 3) (e' := [(18, .bool true), (17, .agg #[.int .i64 ((s.th 0).who), .int .i64 ((s.th 0).tok), .int .i64 ((s.th 0).fin)]), (12, .tuple #[.agg #[.int .i64 ((s.th 0).who), .int .i64 ((s.th 0).tok), .int .i64 ((s.th 0).fin)], .bool true]), (16, .tuple #[.agg #[.int .i64 ((s.th 0).who), .int .i64 ((s.th 0).tok), .int .i64 ((s.th 0).fin)], .bool true]), (15, .int .i64 0), (14, .int .i64 t), (13, .pointer (some ⟨d, 0, none⟩)), (0, .pointer (some ⟨d, 0, none⟩)), (1, .int .i64 t), (5, .slice none 0 0), (6, .int .i64 0), (9, .int .i64 0)]) (by intro u; kernel_rfl) ?_
  refine SOps.o (Op.new 7 27 [.int .i64 0, .int .i64 0, .int .i64 0] (fun b => .pointer (some ⟨b, 0, none⟩)) (by intro u b; kernel_rfl) ?_)
  intro bx1
  refine SOps.o (Op.st 0 27 bx1 0 (.agg #[.int .i64 ((s.th 0).who), .int .i64 ((s.th 0).tok), .int .i64 ((s.th 0).fin)]) [.int .i64 ((s.th 0).who), .int .i64 ((s.th 0).tok), .int .i64 ((s.th 0).fin)] 3 (B' := Cells bx1 27 [.int .i64 ((s.th 0).who), .int .i64 ((s.th 0).tok), .int .i64 ((s.th 0).fin)]) (A' := [Cells bx1 27 [.int .i64 ((s.th 0).who), .int .i64 ((s.th 0).tok), .int .i64 ((s.th 0).fin)], DeskC d (s.tick t)]) rfl (by intro u; kernel_rfl) rfl (by kernel_rfl) rfl rfl (Wr.cells rfl rfl) rfl ?_)
  refine SOps.pures 1 (i' := 10) (m' := 0) (e' := [(8, .bool true), (7, .pointer (some ⟨bx1, 0, none⟩)), (18, .bool true), (17, .agg #[.int .i64 ((s.th 0).who), .int .i64 ((s.th 0).tok), .int .i64 ((s.th 0).fin)]), (12, .tuple #[.agg #[.int .i64 ((s.th 0).who), .int .i64 ((s.th 0).tok), .int .i64 ((s.th 0).fin)], .bool true]), (16, .tuple #[.agg #[.int .i64 ((s.th 0).who), .int .i64 ((s.th 0).tok), .int .i64 ((s.th 0).fin)], .bool true]), (15, .int .i64 0), (14, .int .i64 t), (13, .pointer (some ⟨d, 0, none⟩)), (0, .pointer (some ⟨d, 0, none⟩)), (1, .int .i64 t), (5, .slice none 0 0), (6, .int .i64 0), (9, .int .i64 0)]) (by intro u; kernel_rfl) ?_
  refine SOps.nil (.inl rfl) ?_
  refine At.pick [0, 1, 5, 6, 8, 9] (e' := [(0, .pointer (some ⟨d, 0, none⟩)), (1, .int .i64 t), (5, .slice none 0 0), (6, .int .i64 0), (8, .bool true), (9, .int .i64 0)]) (by kernel_rfl) ?_
  refine At.region (ops := opt8_5) (m := 1) (k' := kt8_10) (by kernel_rfl) 300 (k'' := pt8_6) (by kernel_rfl) ?_
  refine SOps.pures 1 (i' := 1) (m' := 0) (e' := [(19, .bool true), (0, .pointer (some ⟨d, 0, none⟩)), (1, .int .i64 t), (5, .slice none 0 0), (6, .int .i64 0), (8, .bool true), (9, .int .i64 0)]) (by intro u; kernel_rfl) ?_
  refine SOps.nil (.inl rfl) ?_
  refine At.pick [0, 1, 5, 6, 9, 19] (e' := [(0, .pointer (some ⟨d, 0, none⟩)), (1, .int .i64 t), (5, .slice none 0 0), (6, .int .i64 0), (9, .int .i64 0), (19, .bool true)]) (by kernel_rfl) ?_
  refine At.cond 300 true (c := .tmp 19) (k1 := pt8_7) (k2 := pt8_8) (by kernel_rfl) (by intro u; kernel_rfl) (fun _ => ?_) (fun h => by cases h)
  refine At.pick [0, 1, 5, 6, 9] (e' := [(0, .pointer (some ⟨d, 0, none⟩)), (1, .int .i64 t), (5, .slice none 0 0), (6, .int .i64 0), (9, .int .i64 0)]) (by kernel_rfl) ?_
  refine At.region (ops := opt8_7) (m := 5) (k' := kt8_6) (by kernel_rfl) 300 (k'' := pt8_8) (by kernel_rfl) ?_
  refine SOps.pures 2 (i' := 2) (m' := 3) (e' := [(21, .int .i64 0), (20, .slice none 0 0), (0, .pointer (some ⟨d, 0, none⟩)), (1, .int .i64 t), (5, .slice none 0 0), (6, .int .i64 0), (9, .int .i64 0)]) (by intro u; kernel_rfl) ?_
  refine SOps.o (Op.new 22 3 [.int .i64 0] (fun b => .slice (some ⟨b, 0, none⟩) 1 1) (by intro u b; kernel_rfl) ?_)
  intro bx2
  refine SOps.conseq1 (fun F w ho => Grow.nil_ 3 1 ho) ?_
  refine SOps.o (Op.appS 0 1 23 (sz := 1) (bytes := 8) (ty := 30) el_30 (ints ([0])) (ints ([0])) (n := 0) (q := 1) (c := 1) (r := 1) (by omega) rfl rfl (by intro u; kernel_rfl) (by rw [ints_len] <;> first | omega | (simp only [List.length_cons, List.length_nil]; done) | (simp only [List.length_append, List.length_take, List.length_drop, List.length_cons, List.length_nil, List.length_set]; omega)) SrcOf.cells (by simp [ints, oneC]) (by unfold maxLen; omega) (by omega) (by simp [ints]) ?_)
  intro Sx3 cx4
  refine SOps.pures 1 (i' := 5) (m' := 0) (e' := [(5, .slice Sx3 1 cx4), (23, .slice Sx3 1 cx4), (22, .slice (some ⟨bx2, 0, none⟩) 1 1), (21, .int .i64 0), (20, .slice none 0 0), (0, .pointer (some ⟨d, 0, none⟩)), (1, .int .i64 t), (5, .slice none 0 0), (6, .int .i64 0), (9, .int .i64 0)]) (by intro u; kernel_rfl) ?_
  refine SOps.nil (.inl rfl) ?_
  refine At.pick [0, 1, 5, 9] (e' := [(0, .pointer (some ⟨d, 0, none⟩)), (1, .int .i64 t), (5, .slice Sx3 1 cx4), (9, .int .i64 0)]) (by kernel_rfl) ?_
  refine At.region (ops := opt8_8) (m := 2) (k' := kt8_2) (by kernel_rfl) 300 (k'' := pt8_0) (by kernel_rfl) ?_
  refine SOps.pures 2 (i' := 2) (m' := 0) (e' := [(9, .int .i64 1), (24, .int .i64 1), (0, .pointer (some ⟨d, 0, none⟩)), (1, .int .i64 t), (5, .slice Sx3 1 cx4), (9, .int .i64 0)]) (by intro u; kernel_rfl) ?_
  refine SOps.nil (.inl rfl) ?_
  refine At.pick [0, 1, 5, 9] (e' := [(0, .pointer (some ⟨d, 0, none⟩)), (1, .int .i64 t), (5, .slice Sx3 1 cx4), (9, .int .i64 1)]) (by kernel_rfl) ?_
  refine At.keep [3, 0] (B := [DeskC d (s.tick t), Grow Sx3 cx4 3 1 1 (ints ([0]))]) (D := [Cells bx2 3 [.int .i64 0], Cells bx1 27 [.int .i64 ((s.th 0).who), .int .i64 ((s.th 0).tok), .int .i64 ((s.th 0).fin)]]) rfl ?_
  exact heldAll_loop d (s.tick t) t (tick_tick s t) 256 1 1 Sx3 cx4 ([0]) (by omega) (by omega) (by simp [cntP]; exact hh ▸ rfl) (by first | rfl | (simp; done) | (simp; omega))
theorem heldAllN_loop (t : Int) : ∀ (mm k : Nat), 256 - k < mm → k ≤ 256 → At ⟨Try.prog, 8, (fun v' => star (fact (v' = .slice none 0 0) :: [])), 26, false⟩ pt8_0 [(0, .pointer none), (1, .int .i64 t), (5, .slice none 0 0), (9, .int .i64 (k : Int))] [] := by
 intro mm
 induction mm with
 | zero => intro k h; omega
 | succ mm ih =>
  intro k hm hk
  refine At.region (ops := opt8_0) (m := 1) (k' := kt8_3) (by kernel_rfl) 300 (k'' := pt8_1) (by kernel_rfl) ?_
  refine SOps.pures 1 (i' := 1) (m' := 0) (e' := [(10, .bool (decide ((k : Int) < 256))), (0, .pointer none), (1, .int .i64 t), (5, .slice none 0 0), (9, .int .i64 (k : Int))]) (by intro u; kernel_rfl) ?_
  refine SOps.nil (.inl rfl) ?_
  refine At.pick [0, 1, 5, 9, 10] (e' := [(0, .pointer none), (1, .int .i64 t), (5, .slice none 0 0), (9, .int .i64 (k : Int)), (10, .bool (decide ((k : Int) < 256)))]) (by kernel_rfl) ?_
  refine At.split (fun zq => [(0, .pointer none), (1, .int .i64 t), (5, .slice none 0 0), (9, .int .i64 (k : Int)), (10, .bool zq)]) (decide ((k : Int) < 256)) (fun hx1 => ?_) (fun hx1 => ?_)
  ·have hx1 : (k : Int) < 256 := by simpa using hx1
   refine At.cond 300 true (c := .tmp 10) (k1 := pt8_2) (k2 := pt8_3) (by kernel_rfl) (by intro u; kernel_rfl) (fun _ => ?_) (fun h => by cases h)
   refine At.pick [0, 1, 5, 9] (e' := [(0, .pointer none), (1, .int .i64 t), (5, .slice none 0 0), (9, .int .i64 (k : Int))]) (by kernel_rfl) ?_
   refine At.region (ops := opt8_2) (m := 2) (k' := kt8_7) (by kernel_rfl) 300 (k'' := pt8_4) (by kernel_rfl) ?_
   refine SOps.pures 2 (i' := 2) (m' := 0) (e' := [(6, .int .i64 (k : Int)), (11, .int .i64 (k : Int)), (0, .pointer none), (1, .int .i64 t), (5, .slice none 0 0), (9, .int .i64 (k : Int))]) (by intro u; kernel_rfl) ?_
   refine SOps.nil (.inl rfl) ?_
   refine At.pick [0, 1, 5, 6, 9] (e' := [(0, .pointer none), (1, .int .i64 t), (5, .slice none 0 0), (6, .int .i64 (k : Int)), (9, .int .i64 (k : Int))]) (by kernel_rfl) ?_
   refine At.region (ops := opt8_4) (m := 10) (k' := kt8_9) (by kernel_rfl) 300 (k'' := pt8_5) (by kernel_rfl) ?_
   refine SOps.pures 3 (i' := 3) (m' := 7) (e' := [(15, .int .i64 (k : Int)), (14, .int .i64 t), (13, .pointer none), (0, .pointer none), (1, .int .i64 t), (5, .slice none 0 0), (6, .int .i64 (k : Int)), (9, .int .i64 (k : Int))]) (by intro u; kernel_rfl) ?_
   refine SOps.o (Op.callS 16 7 #[.pointer none, .int .i64 t, .int .i64 (k : Int)] (.tuple #[.agg #[.int .i64 0, .int .i64 0, .int .i64 0], .bool false]) [] (B := []) (D := []) (by intro u; kernel_rfl) (ofN t (k : Int)) (by first | exact .inr rfl | exact .inl rfl) (by kernel_rfl) ?_)
   refine SOps.pures 3 (i' := 7) (m' := 3) (e' := [(18, .bool false), (17, .agg #[.int .i64 0, .int .i64 0, .int .i64 0]), (12, .tuple #[.agg #[.int .i64 0, .int .i64 0, .int .i64 0], .bool false]), (16, .tuple #[.agg #[.int .i64 0, .int .i64 0, .int .i64 0], .bool false]), (15, .int .i64 (k : Int)), (14, .int .i64 t), (13, .pointer none), (0, .pointer none), (1, .int .i64 t), (5, .slice none 0 0), (6, .int .i64 (k : Int)), (9, .int .i64 (k : Int))]) (by intro u; kernel_rfl) ?_
   refine SOps.o (Op.new 7 27 [.int .i64 0, .int .i64 0, .int .i64 0] (fun b => .pointer (some ⟨b, 0, none⟩)) (by intro u b; kernel_rfl) ?_)
   intro bx2
   refine SOps.o (Op.st 0 27 bx2 0 (.agg #[.int .i64 0, .int .i64 0, .int .i64 0]) [.int .i64 0, .int .i64 0, .int .i64 0] 3 (B' := Cells bx2 27 [.int .i64 0, .int .i64 0, .int .i64 0]) (A' := [Cells bx2 27 [.int .i64 0, .int .i64 0, .int .i64 0]]) rfl (by intro u; kernel_rfl) rfl (by kernel_rfl) rfl rfl (Wr.cells rfl rfl) rfl ?_)
   refine SOps.pures 1 (i' := 10) (m' := 0) (e' := [(8, .bool false), (7, .pointer (some ⟨bx2, 0, none⟩)), (18, .bool false), (17, .agg #[.int .i64 0, .int .i64 0, .int .i64 0]), (12, .tuple #[.agg #[.int .i64 0, .int .i64 0, .int .i64 0], .bool false]), (16, .tuple #[.agg #[.int .i64 0, .int .i64 0, .int .i64 0], .bool false]), (15, .int .i64 (k : Int)), (14, .int .i64 t), (13, .pointer none), (0, .pointer none), (1, .int .i64 t), (5, .slice none 0 0), (6, .int .i64 (k : Int)), (9, .int .i64 (k : Int))]) (by intro u; kernel_rfl) ?_
   refine SOps.nil (.inl rfl) ?_
   refine At.pick [0, 1, 5, 6, 8, 9] (e' := [(0, .pointer none), (1, .int .i64 t), (5, .slice none 0 0), (6, .int .i64 (k : Int)), (8, .bool false), (9, .int .i64 (k : Int))]) (by kernel_rfl) ?_
   refine At.region (ops := opt8_5) (m := 1) (k' := kt8_10) (by kernel_rfl) 300 (k'' := pt8_6) (by kernel_rfl) ?_
   refine SOps.pures 1 (i' := 1) (m' := 0) (e' := [(19, .bool false), (0, .pointer none), (1, .int .i64 t), (5, .slice none 0 0), (6, .int .i64 (k : Int)), (8, .bool false), (9, .int .i64 (k : Int))]) (by intro u; kernel_rfl) ?_
   refine SOps.nil (.inl rfl) ?_
   refine At.pick [0, 1, 5, 6, 9, 19] (e' := [(0, .pointer none), (1, .int .i64 t), (5, .slice none 0 0), (6, .int .i64 (k : Int)), (9, .int .i64 (k : Int)), (19, .bool false)]) (by kernel_rfl) ?_
   refine At.cond 300 false (c := .tmp 19) (k1 := pt8_7) (k2 := pt8_8) (by kernel_rfl) (by intro u; kernel_rfl) (fun h => by cases h) (fun _ => ?_)
   refine At.pick [0, 1, 5, 9] (e' := [(0, .pointer none), (1, .int .i64 t), (5, .slice none 0 0), (9, .int .i64 (k : Int))]) (by kernel_rfl) ?_
   refine At.region (ops := opt8_8) (m := 2) (k' := kt8_2) (by kernel_rfl) 300 (k'' := pt8_0) (by kernel_rfl) ?_
   refine SOps.v (Val.pe 24 (.int .i64 (IntKind.i64.wrap ((k : Int) + 1))) (.int .i64 ((k + 1 : Nat) : Int)) (by intro u; kernel_rfl) (i64_in (by omega) (by omega) (by omega))) ?_
   refine SOps.pures 1 (i' := 2) (m' := 0) (e' := [(9, .int .i64 ((k + 1 : Nat) : Int)), (24, .int .i64 ((k + 1 : Nat) : Int)), (0, .pointer none), (1, .int .i64 t), (5, .slice none 0 0), (9, .int .i64 (k : Int))]) (by intro u; kernel_rfl) ?_
   refine SOps.nil (.inl rfl) ?_
   refine At.pick [0, 1, 5, 9] (e' := [(0, .pointer none), (1, .int .i64 t), (5, .slice none 0 0), (9, .int .i64 ((k + 1 : Nat) : Int))]) (by kernel_rfl) ?_
   refine At.keep [] (B := []) (D := [Cells bx2 27 [.int .i64 0, .int .i64 0, .int .i64 0]]) rfl ?_
   exact ih (k + 1) (by omega) (by omega)
  ·have hx1 : (k : Int) ≥ 256 := by simpa using hx1
   refine At.cond 300 false (c := .tmp 10) (k1 := pt8_2) (k2 := pt8_3) (by kernel_rfl) (by intro u; kernel_rfl) (fun h => by cases h) (fun _ => ?_)
   refine At.pick [5] (e' := [(5, .slice none 0 0)]) (by kernel_rfl) ?_
   refine At.region (ops := opt8_3) (m := 2) (k' := kt8_8) (by kernel_rfl) 300 (k'' := pt8_9) (by kernel_rfl) ?_
   refine SOps.pures 2 (i' := 2) (m' := 0) (e' := [(4, .slice none 0 0), (25, .slice none 0 0), (5, .slice none 0 0)]) (by intro u; kernel_rfl) ?_
   refine SOps.nil (.inl rfl) ?_
   refine At.pick [4] (e' := [(4, .slice none 0 0)]) (by kernel_rfl) ?_
   refine At.ret1 (fn := Try.f8) (v := .slice none 0 0) (t := 4) (by kernel_rfl) Try.func8 (by kernel_rfl) (by kernel_rfl) (fun F w ho => ?_)
   exact shutV rfl [] rfl ho
theorem heldAllN (t : Int) : Ctr Try.prog 8 #[.pointer none, .int .i64 t] [] (fun v' => star (fact (v' = .slice none 0 0) :: [])) false := by
 refine spec_of_at (fn := Try.f8) (c := bd8) (args := [.pointer none, .int .i64 t]) (n := 26) (e := [(0, .pointer none), (1, .int .i64 t)]) (k := pt8_10) Try.func8 (by kernel_rfl) (by kernel_rfl) (by kernel_rfl) (by kernel_rfl) 300 (by kernel_rfl) ?_
 refine At.region (ops := opt8_10) (m := 1) (k' := kt8_11) (by kernel_rfl) 300 (k'' := pt8_11) (by kernel_rfl) ?_
 refine SOps.pures 1 (i' := 1) (m' := 0) (e' := [(4, .slice none 0 0), (0, .pointer none), (1, .int .i64 t)]) (by intro u; kernel_rfl) ?_
 refine SOps.nil (.inl rfl) ?_
 refine At.pick [0, 1] (e' := [(0, .pointer none), (1, .int .i64 t)]) (by kernel_rfl) ?_
 refine At.region (ops := opt8_11) (m := 1) (k' := kt8_12) (by kernel_rfl) 300 (k'' := pt8_12) (by kernel_rfl) ?_
 refine SOps.pures 1 (i' := 1) (m' := 0) (e' := [(5, .slice none 0 0), (0, .pointer none), (1, .int .i64 t)]) (by intro u; kernel_rfl) ?_
 refine SOps.nil (.inl rfl) ?_
 refine At.pick [0, 1, 5] (e' := [(0, .pointer none), (1, .int .i64 t), (5, .slice none 0 0)]) (by kernel_rfl) ?_
 refine At.region (ops := opt8_12) (m := 1) (k' := kt8_13) (by kernel_rfl) 300 (k'' := pt8_0) (by kernel_rfl) ?_
 refine SOps.pures 1 (i' := 1) (m' := 0) (e' := [(9, .int .i64 0), (0, .pointer none), (1, .int .i64 t), (5, .slice none 0 0)]) (by intro u; kernel_rfl) ?_
 refine SOps.nil (.inl rfl) ?_
 refine At.pick [0, 1, 5, 9] (e' := [(0, .pointer none), (1, .int .i64 t), (5, .slice none 0 0), (9, .int .i64 0)]) (by kernel_rfl) ?_
 exact heldAllN_loop t 257 0 (by omega) (by omega)
noncomputable def bd13 : Code := (Try.f13.body).getD .skip
noncomputable def kt13_0 : List Item := .code (pick [1, 1, 1] bd13) :: []
noncomputable def kt13_1 : List Item := .inBlock 0 :: kt13_0
noncomputable def kt13_2 : List Item := .inLoop (pick [1, 1, 0, 1, 0, 0] bd13) :: kt13_1
noncomputable def kt13_3 : List Item := .code (pick [1, 1, 0, 1, 0, 0, 1] bd13) :: kt13_2
noncomputable def pt13_0 : List Item := .code (pick [1, 1, 0, 1, 0, 0, 0] bd13) :: kt13_3
noncomputable def opt13_0 : Array Oper := opsOf (pick [1, 1, 0, 1, 0, 0, 0] bd13)
noncomputable def kt13_4 : List Item := .code (pick [1, 1, 0, 1, 0, 0, 1, 1] bd13) :: kt13_2
noncomputable def pt13_1 : List Item := .code (pick [1, 1, 0, 1, 0, 0, 1, 0] bd13) :: kt13_4
noncomputable def kt13_5 : List Item := .code (pick [1, 1, 0, 1, 0, 0, 1, 1, 1] bd13) :: kt13_2
noncomputable def kt13_6 : List Item := .inBlock 1 :: kt13_5
noncomputable def kt13_7 : List Item := .code (pick [1, 1, 0, 1, 0, 0, 1, 1, 0, 0, 1] bd13) :: kt13_6
noncomputable def pt13_2 : List Item := .code (pick [1, 1, 0, 1, 0, 0, 1, 1, 0, 0, 0] bd13) :: kt13_7
noncomputable def opt13_2 : Array Oper := opsOf (pick [1, 1, 0, 1, 0, 0, 1, 1, 0, 0, 0] bd13)
noncomputable def kt13_8 : List Item := .code (pick [1, 1, 1, 1] bd13) :: []
noncomputable def pt13_3 : List Item := .code (pick [1, 1, 1, 0] bd13) :: kt13_8
noncomputable def opt13_3 : Array Oper := opsOf (pick [1, 1, 1, 0] bd13)
noncomputable def kt13_9 : List Item := .code (pick [1, 1, 0, 1, 0, 0, 1, 1, 0, 0, 1, 1] bd13) :: kt13_6
noncomputable def pt13_4 : List Item := .code (pick [1, 1, 0, 1, 0, 0, 1, 1, 0, 0, 1, 0] bd13) :: kt13_9
noncomputable def opt13_4 : Array Oper := opsOf (pick [1, 1, 0, 1, 0, 0, 1, 1, 0, 0, 1, 0] bd13)
noncomputable def kt13_10 : List Item := .code (pick [1, 1, 0, 1, 0, 0, 1, 1, 0, 0, 1, 1, 1] bd13) :: kt13_6
noncomputable def pt13_5 : List Item := .code (pick [1, 1, 0, 1, 0, 0, 1, 1, 0, 0, 1, 1, 0] bd13) :: kt13_10
noncomputable def opt13_5 : Array Oper := opsOf (pick [1, 1, 0, 1, 0, 0, 1, 1, 0, 0, 1, 1, 0] bd13)
noncomputable def pt13_6 : List Item := .code (pick [1, 1, 0, 1, 0, 0, 1, 1, 0, 0, 1, 1, 1] bd13) :: kt13_6
noncomputable def pt13_7 : List Item := .code (pick [1, 1, 0, 1, 0, 0, 1, 1, 0, 0, 1, 1, 1, 0] bd13) :: kt13_6
noncomputable def opt13_7 : Array Oper := opsOf (pick [1, 1, 0, 1, 0, 0, 1, 1, 0, 0, 1, 1, 1, 0] bd13)
noncomputable def pt13_8 : List Item := .code (pick [1, 1, 0, 1, 0, 0, 1, 1, 1] bd13) :: kt13_2
noncomputable def opt13_8 : Array Oper := opsOf (pick [1, 1, 0, 1, 0, 0, 1, 1, 1] bd13)
noncomputable def pt13_9 : List Item := .code (pick [1, 1, 1, 1] bd13) :: []
noncomputable def kt13_11 : List Item := .code (pick [1] bd13) :: []
noncomputable def pt13_10 : List Item := .code (pick [0] bd13) :: kt13_11
noncomputable def opt13_10 : Array Oper := opsOf (pick [0] bd13)
noncomputable def kt13_12 : List Item := .code (pick [1, 1] bd13) :: []
noncomputable def pt13_11 : List Item := .code (pick [1, 0] bd13) :: kt13_12
noncomputable def opt13_11 : Array Oper := opsOf (pick [1, 0] bd13)
noncomputable def kt13_13 : List Item := .code (pick [1, 1, 0, 1] bd13) :: kt13_0
noncomputable def pt13_12 : List Item := .code (pick [1, 1, 0, 0] bd13) :: kt13_13
noncomputable def opt13_12 : Array Oper := opsOf (pick [1, 1, 0, 0] bd13)
theorem nextF_loop (d : Nat) (s : De) (t : Int) (hs : s.tick t = s) : ∀ (mm k : Nat) (f : Int), 256 - k < mm → k ≤ 256 → f = minP s.held (fun j => (s.th j).fin) k → At ⟨Try.prog, 13, (fun v' => star (fact (v' = .int .i64 (minP s.held (fun j => (s.th j).fin) 256)) :: [DeskC d s])), 26, false⟩ pt13_0 [(0, .pointer (some ⟨d, 0, none⟩)), (1, .int .i64 t), (5, .int .i64 f), (9, .int .i64 (k : Int))] [DeskC d s] := by
 intro mm
 induction mm with
 | zero => intro k f h; omega
 | succ mm ih =>
  intro k f hm hk hf
  refine At.region (ops := opt13_0) (m := 1) (k' := kt13_3) (by kernel_rfl) 300 (k'' := pt13_1) (by kernel_rfl) ?_
  refine SOps.pures 1 (i' := 1) (m' := 0) (e' := [(10, .bool (decide ((k : Int) < 256))), (0, .pointer (some ⟨d, 0, none⟩)), (1, .int .i64 t), (5, .int .i64 f), (9, .int .i64 (k : Int))]) (by intro u; kernel_rfl) ?_
  refine SOps.nil (.inl rfl) ?_
  refine At.pick [0, 1, 5, 9, 10] (e' := [(0, .pointer (some ⟨d, 0, none⟩)), (1, .int .i64 t), (5, .int .i64 f), (9, .int .i64 (k : Int)), (10, .bool (decide ((k : Int) < 256)))]) (by kernel_rfl) ?_
  refine At.split (fun zq => [(0, .pointer (some ⟨d, 0, none⟩)), (1, .int .i64 t), (5, .int .i64 f), (9, .int .i64 (k : Int)), (10, .bool zq)]) (decide ((k : Int) < 256)) (fun hx1 => ?_) (fun hx1 => ?_)
  ·have hx1 : (k : Int) < 256 := by simpa using hx1
   refine At.cond 300 true (c := .tmp 10) (k1 := pt13_2) (k2 := pt13_3) (by kernel_rfl) (by intro u; kernel_rfl) (fun _ => ?_) (fun h => by cases h)
   refine At.pick [0, 1, 5, 9] (e' := [(0, .pointer (some ⟨d, 0, none⟩)), (1, .int .i64 t), (5, .int .i64 f), (9, .int .i64 (k : Int))]) (by kernel_rfl) ?_
   refine At.region (ops := opt13_2) (m := 2) (k' := kt13_7) (by kernel_rfl) 300 (k'' := pt13_4) (by kernel_rfl) ?_
   refine SOps.pures 2 (i' := 2) (m' := 0) (e' := [(6, .int .i64 (k : Int)), (11, .int .i64 (k : Int)), (0, .pointer (some ⟨d, 0, none⟩)), (1, .int .i64 t), (5, .int .i64 f), (9, .int .i64 (k : Int))]) (by intro u; kernel_rfl) ?_
   refine SOps.nil (.inl rfl) ?_
   refine At.pick [0, 1, 5, 6, 9] (e' := [(0, .pointer (some ⟨d, 0, none⟩)), (1, .int .i64 t), (5, .int .i64 f), (6, .int .i64 (k : Int)), (9, .int .i64 (k : Int))]) (by kernel_rfl) ?_
   cases hh : (s.tick t).held k with
   | false =>
    refine At.region (ops := opt13_4) (m := 10) (k' := kt13_9) (by kernel_rfl) 300 (k'' := pt13_5) (by kernel_rfl) ?_
    refine SOps.pures 3 (i' := 3) (m' := 7) (e' := [(15, .int .i64 (k : Int)), (14, .int .i64 t), (13, .pointer (some ⟨d, 0, none⟩)), (0, .pointer (some ⟨d, 0, none⟩)), (1, .int .i64 t), (5, .int .i64 f), (6, .int .i64 (k : Int)), (9, .int .i64 (k : Int))]) (by intro u; kernel_rfl) ?_
    have hc := ofNo d s t (k : Int) (by omega) (by omega) hh
    rw [hs] at hc
    refine SOps.o (Op.callS 16 7 #[.pointer (some ⟨d, 0, none⟩), .int .i64 t, .int .i64 (k : Int)] (.tuple #[.agg #[.int .i64 0, .int .i64 0, .int .i64 0], .bool false]) [0] (B := [DeskC d s]) (D := []) (by intro u; kernel_rfl) (hc) (by first | exact .inr rfl | exact .inl rfl) (by kernel_rfl) ?_)
    refine SOps.pures 3 (i' := 7) (m' := 3) (e' := [(18, .bool false), (17, .agg #[.int .i64 0, .int .i64 0, .int .i64 0]), (12, .tuple #[.agg #[.int .i64 0, .int .i64 0, .int .i64 0], .bool false]), (16, .tuple #[.agg #[.int .i64 0, .int .i64 0, .int .i64 0], .bool false]), (15, .int .i64 (k : Int)), (14, .int .i64 t), (13, .pointer (some ⟨d, 0, none⟩)), (0, .pointer (some ⟨d, 0, none⟩)), (1, .int .i64 t), (5, .int .i64 f), (6, .int .i64 (k : Int)), (9, .int .i64 (k : Int))]) (by intro u; kernel_rfl) ?_
    refine SOps.o (Op.new 7 27 [.int .i64 0, .int .i64 0, .int .i64 0] (fun b => .pointer (some ⟨b, 0, none⟩)) (by intro u b; kernel_rfl) ?_)
    intro bx2
    refine SOps.o (Op.st 0 27 bx2 0 (.agg #[.int .i64 0, .int .i64 0, .int .i64 0]) [.int .i64 0, .int .i64 0, .int .i64 0] 3 (B' := Cells bx2 27 [.int .i64 0, .int .i64 0, .int .i64 0]) (A' := [Cells bx2 27 [.int .i64 0, .int .i64 0, .int .i64 0], DeskC d s]) rfl (by intro u; kernel_rfl) rfl (by kernel_rfl) rfl rfl (Wr.cells rfl rfl) rfl ?_)
    refine SOps.pures 1 (i' := 10) (m' := 0) (e' := [(8, .bool false), (7, .pointer (some ⟨bx2, 0, none⟩)), (18, .bool false), (17, .agg #[.int .i64 0, .int .i64 0, .int .i64 0]), (12, .tuple #[.agg #[.int .i64 0, .int .i64 0, .int .i64 0], .bool false]), (16, .tuple #[.agg #[.int .i64 0, .int .i64 0, .int .i64 0], .bool false]), (15, .int .i64 (k : Int)), (14, .int .i64 t), (13, .pointer (some ⟨d, 0, none⟩)), (0, .pointer (some ⟨d, 0, none⟩)), (1, .int .i64 t), (5, .int .i64 f), (6, .int .i64 (k : Int)), (9, .int .i64 (k : Int))]) (by intro u; kernel_rfl) ?_
    refine SOps.nil (.inl rfl) ?_
    refine At.pick [0, 1, 5, 7, 8, 9] (e' := [(0, .pointer (some ⟨d, 0, none⟩)), (1, .int .i64 t), (5, .int .i64 f), (7, .pointer (some ⟨bx2, 0, none⟩)), (8, .bool false), (9, .int .i64 (k : Int))]) (by kernel_rfl) ?_
    refine At.region (ops := opt13_5) (m := 1) (k' := kt13_10) (by kernel_rfl) 300 (k'' := pt13_6) (by kernel_rfl) ?_
    refine SOps.pures 1 (i' := 1) (m' := 0) (e' := [(19, .bool false), (0, .pointer (some ⟨d, 0, none⟩)), (1, .int .i64 t), (5, .int .i64 f), (7, .pointer (some ⟨bx2, 0, none⟩)), (8, .bool false), (9, .int .i64 (k : Int))]) (by intro u; kernel_rfl) ?_
    refine SOps.nil (.inl rfl) ?_
    refine At.pick [0, 1, 5, 7, 9, 19] (e' := [(0, .pointer (some ⟨d, 0, none⟩)), (1, .int .i64 t), (5, .int .i64 f), (7, .pointer (some ⟨bx2, 0, none⟩)), (9, .int .i64 (k : Int)), (19, .bool false)]) (by kernel_rfl) ?_
    refine At.cond 300 false (c := .tmp 19) (k1 := pt13_7) (k2 := pt13_8) (by kernel_rfl) (by intro u; kernel_rfl) (fun h => by cases h) (fun _ => ?_)
    refine At.pick [0, 1, 5, 9] (e' := [(0, .pointer (some ⟨d, 0, none⟩)), (1, .int .i64 t), (5, .int .i64 f), (9, .int .i64 (k : Int))]) (by kernel_rfl) ?_
    refine At.region (ops := opt13_8) (m := 2) (k' := kt13_2) (by kernel_rfl) 300 (k'' := pt13_0) (by kernel_rfl) ?_
    refine SOps.v (Val.pe 24 (.int .i64 (IntKind.i64.wrap ((k : Int) + 1))) (.int .i64 ((k + 1 : Nat) : Int)) (by intro u; kernel_rfl) (i64_in (by omega) (by omega) (by omega))) ?_
    refine SOps.pures 1 (i' := 2) (m' := 0) (e' := [(9, .int .i64 ((k + 1 : Nat) : Int)), (24, .int .i64 ((k + 1 : Nat) : Int)), (0, .pointer (some ⟨d, 0, none⟩)), (1, .int .i64 t), (5, .int .i64 f), (9, .int .i64 (k : Int))]) (by intro u; kernel_rfl) ?_
    refine SOps.nil (.inl rfl) ?_
    refine At.pick [0, 1, 5, 9] (e' := [(0, .pointer (some ⟨d, 0, none⟩)), (1, .int .i64 t), (5, .int .i64 f), (9, .int .i64 ((k + 1 : Nat) : Int))]) (by kernel_rfl) ?_
    refine At.keep [1] (B := [DeskC d s]) (D := [Cells bx2 27 [.int .i64 0, .int .i64 0, .int .i64 0]]) rfl ?_
    exact ih (k + 1) f (by omega) (by omega) (by simp only [minP]; rw [show s.held k = _ from (held_tick s t k hs) ▸ hh, hf]; simp)
   | true =>
    refine At.region (ops := opt13_4) (m := 10) (k' := kt13_9) (by kernel_rfl) 300 (k'' := pt13_5) (by kernel_rfl) ?_
    refine SOps.pures 3 (i' := 3) (m' := 7) (e' := [(15, .int .i64 (k : Int)), (14, .int .i64 t), (13, .pointer (some ⟨d, 0, none⟩)), (0, .pointer (some ⟨d, 0, none⟩)), (1, .int .i64 t), (5, .int .i64 f), (6, .int .i64 (k : Int)), (9, .int .i64 (k : Int))]) (by intro u; kernel_rfl) ?_
    have hc := ofYes d s t (k : Int) (by omega) (by omega) hh
    rw [hs] at hc
    refine SOps.o (Op.callS 16 7 #[.pointer (some ⟨d, 0, none⟩), .int .i64 t, .int .i64 (k : Int)] (.tuple #[.agg #[.int .i64 ((s.th k).who), .int .i64 ((s.th k).tok), .int .i64 ((s.th k).fin)], .bool true]) [0] (B := [DeskC d s]) (D := []) (by intro u; kernel_rfl) (hc) (by first | exact .inr rfl | exact .inl rfl) (by kernel_rfl) ?_)
    refine SOps.pures 3 (i' := 7) (m' := 3) (e' := [(18, .bool true), (17, .agg #[.int .i64 ((s.th k).who), .int .i64 ((s.th k).tok), .int .i64 ((s.th k).fin)]), (12, .tuple #[.agg #[.int .i64 ((s.th k).who), .int .i64 ((s.th k).tok), .int .i64 ((s.th k).fin)], .bool true]), (16, .tuple #[.agg #[.int .i64 ((s.th k).who), .int .i64 ((s.th k).tok), .int .i64 ((s.th k).fin)], .bool true]), (15, .int .i64 (k : Int)), (14, .int .i64 t), (13, .pointer (some ⟨d, 0, none⟩)), (0, .pointer (some ⟨d, 0, none⟩)), (1, .int .i64 t), (5, .int .i64 f), (6, .int .i64 (k : Int)), (9, .int .i64 (k : Int))]) (by intro u; kernel_rfl) ?_
    refine SOps.o (Op.new 7 27 [.int .i64 0, .int .i64 0, .int .i64 0] (fun b => .pointer (some ⟨b, 0, none⟩)) (by intro u b; kernel_rfl) ?_)
    intro bx2
    refine SOps.o (Op.st 0 27 bx2 0 (.agg #[.int .i64 ((s.th k).who), .int .i64 ((s.th k).tok), .int .i64 ((s.th k).fin)]) [.int .i64 ((s.th k).who), .int .i64 ((s.th k).tok), .int .i64 ((s.th k).fin)] 3 (B' := Cells bx2 27 [.int .i64 ((s.th k).who), .int .i64 ((s.th k).tok), .int .i64 ((s.th k).fin)]) (A' := [Cells bx2 27 [.int .i64 ((s.th k).who), .int .i64 ((s.th k).tok), .int .i64 ((s.th k).fin)], DeskC d s]) rfl (by intro u; kernel_rfl) rfl (by kernel_rfl) rfl rfl (Wr.cells rfl rfl) rfl ?_)
    refine SOps.pures 1 (i' := 10) (m' := 0) (e' := [(8, .bool true), (7, .pointer (some ⟨bx2, 0, none⟩)), (18, .bool true), (17, .agg #[.int .i64 ((s.th k).who), .int .i64 ((s.th k).tok), .int .i64 ((s.th k).fin)]), (12, .tuple #[.agg #[.int .i64 ((s.th k).who), .int .i64 ((s.th k).tok), .int .i64 ((s.th k).fin)], .bool true]), (16, .tuple #[.agg #[.int .i64 ((s.th k).who), .int .i64 ((s.th k).tok), .int .i64 ((s.th k).fin)], .bool true]), (15, .int .i64 (k : Int)), (14, .int .i64 t), (13, .pointer (some ⟨d, 0, none⟩)), (0, .pointer (some ⟨d, 0, none⟩)), (1, .int .i64 t), (5, .int .i64 f), (6, .int .i64 (k : Int)), (9, .int .i64 (k : Int))]) (by intro u; kernel_rfl) ?_
    refine SOps.nil (.inl rfl) ?_
    refine At.pick [0, 1, 5, 7, 8, 9] (e' := [(0, .pointer (some ⟨d, 0, none⟩)), (1, .int .i64 t), (5, .int .i64 f), (7, .pointer (some ⟨bx2, 0, none⟩)), (8, .bool true), (9, .int .i64 (k : Int))]) (by kernel_rfl) ?_
    refine At.region (ops := opt13_5) (m := 1) (k' := kt13_10) (by kernel_rfl) 300 (k'' := pt13_6) (by kernel_rfl) ?_
    refine SOps.pures 1 (i' := 1) (m' := 0) (e' := [(19, .bool true), (0, .pointer (some ⟨d, 0, none⟩)), (1, .int .i64 t), (5, .int .i64 f), (7, .pointer (some ⟨bx2, 0, none⟩)), (8, .bool true), (9, .int .i64 (k : Int))]) (by intro u; kernel_rfl) ?_
    refine SOps.nil (.inl rfl) ?_
    refine At.pick [0, 1, 5, 7, 9, 19] (e' := [(0, .pointer (some ⟨d, 0, none⟩)), (1, .int .i64 t), (5, .int .i64 f), (7, .pointer (some ⟨bx2, 0, none⟩)), (9, .int .i64 (k : Int)), (19, .bool true)]) (by kernel_rfl) ?_
    refine At.cond 300 true (c := .tmp 19) (k1 := pt13_7) (k2 := pt13_8) (by kernel_rfl) (by intro u; kernel_rfl) (fun _ => ?_) (fun h => by cases h)
    refine At.pick [0, 1, 5, 7, 9] (e' := [(0, .pointer (some ⟨d, 0, none⟩)), (1, .int .i64 t), (5, .int .i64 f), (7, .pointer (some ⟨bx2, 0, none⟩)), (9, .int .i64 (k : Int))]) (by kernel_rfl) ?_
    refine At.region (ops := opt13_7) (m := 5) (k' := kt13_6) (by kernel_rfl) 300 (k'' := pt13_8) (by kernel_rfl) ?_
    refine SOps.pures 2 (i' := 2) (m' := 3) (e' := [(21, .pointer (some ⟨bx2, 2, none⟩)), (20, .int .i64 f), (0, .pointer (some ⟨d, 0, none⟩)), (1, .int .i64 t), (5, .int .i64 f), (7, .pointer (some ⟨bx2, 0, none⟩)), (9, .int .i64 (k : Int))]) (by intro u; kernel_rfl) ?_
    refine SOps.v (Val.ld1 0 22 3 bx2 2 (.int .i64 ((s.th k).fin)) rfl (by intro u; kernel_rfl) (by kernel_rfl) (Rd.cells rfl)) ?_
    refine SOps.v (Val.pe 23 (.int .i64 (if (s.th k).fin < f then (s.th k).fin else f)) (.int .i64 (min f ((s.th k).fin))) (by intro u; kernel_rfl) (int_min _ _ _)) ?_
    refine SOps.pures 1 (i' := 5) (m' := 0) (e' := [(5, .int .i64 (min f ((s.th k).fin))), (23, .int .i64 (min f ((s.th k).fin))), (22, .int .i64 ((s.th k).fin)), (21, .pointer (some ⟨bx2, 2, none⟩)), (20, .int .i64 f), (0, .pointer (some ⟨d, 0, none⟩)), (1, .int .i64 t), (5, .int .i64 f), (7, .pointer (some ⟨bx2, 0, none⟩)), (9, .int .i64 (k : Int))]) (by intro u; kernel_rfl) ?_
    refine SOps.nil (.inl rfl) ?_
    refine At.pick [0, 1, 5, 9] (e' := [(0, .pointer (some ⟨d, 0, none⟩)), (1, .int .i64 t), (5, .int .i64 (min f ((s.th k).fin))), (9, .int .i64 (k : Int))]) (by kernel_rfl) ?_
    refine At.region (ops := opt13_8) (m := 2) (k' := kt13_2) (by kernel_rfl) 300 (k'' := pt13_0) (by kernel_rfl) ?_
    refine SOps.v (Val.pe 24 (.int .i64 (IntKind.i64.wrap ((k : Int) + 1))) (.int .i64 ((k + 1 : Nat) : Int)) (by intro u; kernel_rfl) (i64_in (by omega) (by omega) (by omega))) ?_
    refine SOps.pures 1 (i' := 2) (m' := 0) (e' := [(9, .int .i64 ((k + 1 : Nat) : Int)), (24, .int .i64 ((k + 1 : Nat) : Int)), (0, .pointer (some ⟨d, 0, none⟩)), (1, .int .i64 t), (5, .int .i64 (min f ((s.th k).fin))), (9, .int .i64 (k : Int))]) (by intro u; kernel_rfl) ?_
    refine SOps.nil (.inl rfl) ?_
    refine At.pick [0, 1, 5, 9] (e' := [(0, .pointer (some ⟨d, 0, none⟩)), (1, .int .i64 t), (5, .int .i64 (min f ((s.th k).fin))), (9, .int .i64 ((k + 1 : Nat) : Int))]) (by kernel_rfl) ?_
    refine At.keep [1] (B := [DeskC d s]) (D := [Cells bx2 27 [.int .i64 ((s.th k).who), .int .i64 ((s.th k).tok), .int .i64 ((s.th k).fin)]]) rfl ?_
    exact ih (k + 1) (min f ((s.th k).fin)) (by omega) (by omega) (by simp only [minP]; rw [show s.held k = _ from (held_tick s t k hs) ▸ hh, hf]; simp)
  ·have hx1 : (k : Int) ≥ 256 := by simpa using hx1
   refine At.cond 300 false (c := .tmp 10) (k1 := pt13_2) (k2 := pt13_3) (by kernel_rfl) (by intro u; kernel_rfl) (fun h => by cases h) (fun _ => ?_)
   refine At.pick [5] (e' := [(5, .int .i64 f)]) (by kernel_rfl) ?_
   refine At.region (ops := opt13_3) (m := 2) (k' := kt13_8) (by kernel_rfl) 300 (k'' := pt13_9) (by kernel_rfl) ?_
   refine SOps.pures 2 (i' := 2) (m' := 0) (e' := [(4, .int .i64 f), (25, .int .i64 f), (5, .int .i64 f)]) (by intro u; kernel_rfl) ?_
   refine SOps.nil (.inl rfl) ?_
   refine At.pick [4] (e' := [(4, .int .i64 f)]) (by kernel_rfl) ?_
   refine At.ret1 (fn := Try.f13) (v := .int .i64 f) (t := 4) (by kernel_rfl) Try.func13 (by kernel_rfl) (by kernel_rfl) (fun F w ho => ?_)
   obtain rfl : k = 256 := by omega
   exact shutV (by rw [hf]) [0] rfl ho
theorem nextF (d : Nat) (s : De) (t : Int) : Ctr Try.prog 13 #[.pointer (some ⟨d, 0, none⟩), .int .i64 t] [DeskC d s] (fun v' => star (fact (v' = .int .i64 (minP (s.tick t).held (fun j => (s.th j).fin) 256)) :: [DeskC d (s.tick t)])) false := by
 refine spec_of_at (fn := Try.f13) (c := bd13) (args := [.pointer (some ⟨d, 0, none⟩), .int .i64 t]) (n := 26) (e := [(0, .pointer (some ⟨d, 0, none⟩)), (1, .int .i64 t)]) (k := pt13_10) Try.func13 (by kernel_rfl) (by kernel_rfl) (by kernel_rfl) (by kernel_rfl) 300 (by kernel_rfl) ?_
 refine At.region (ops := opt13_10) (m := 1) (k' := kt13_11) (by kernel_rfl) 300 (k'' := pt13_11) (by kernel_rfl) ?_
 refine SOps.pures 1 (i' := 1) (m' := 0) (e' := [(4, .int .i64 0), (0, .pointer (some ⟨d, 0, none⟩)), (1, .int .i64 t)]) (by intro u; kernel_rfl) ?_
 refine SOps.nil (.inl rfl) ?_
 refine At.pick [0, 1] (e' := [(0, .pointer (some ⟨d, 0, none⟩)), (1, .int .i64 t)]) (by kernel_rfl) ?_
 refine At.region (ops := opt13_11) (m := 1) (k' := kt13_12) (by kernel_rfl) 300 (k'' := pt13_12) (by kernel_rfl) ?_
 refine SOps.pures 1 (i' := 1) (m' := 0) (e' := [(5, .int .i64 4611686018427387903), (0, .pointer (some ⟨d, 0, none⟩)), (1, .int .i64 t)]) (by intro u; kernel_rfl) ?_
 refine SOps.nil (.inl rfl) ?_
 refine At.pick [0, 1, 5] (e' := [(0, .pointer (some ⟨d, 0, none⟩)), (1, .int .i64 t), (5, .int .i64 4611686018427387903)]) (by kernel_rfl) ?_
 refine At.region (ops := opt13_12) (m := 1) (k' := kt13_13) (by kernel_rfl) 300 (k'' := pt13_0) (by kernel_rfl) ?_
 refine SOps.pures 1 (i' := 1) (m' := 0) (e' := [(9, .int .i64 0), (0, .pointer (some ⟨d, 0, none⟩)), (1, .int .i64 t), (5, .int .i64 4611686018427387903)]) (by intro u; kernel_rfl) ?_
 refine SOps.nil (.inl rfl) ?_
 refine At.pick [0, 1, 5, 9] (e' := [(0, .pointer (some ⟨d, 0, none⟩)), (1, .int .i64 t), (5, .int .i64 4611686018427387903), (9, .int .i64 0)]) (by kernel_rfl) ?_
 refine At.region (ops := opt13_0) (m := 1) (k' := kt13_3) (by kernel_rfl) 300 (k'' := pt13_1) (by kernel_rfl) ?_
 refine SOps.pures 1 (i' := 1) (m' := 0) (e' := [(10, .bool true), (0, .pointer (some ⟨d, 0, none⟩)), (1, .int .i64 t), (5, .int .i64 4611686018427387903), (9, .int .i64 0)]) (by intro u; kernel_rfl) ?_
 refine SOps.nil (.inl rfl) ?_
 refine At.pick [0, 1, 5, 9, 10] (e' := [(0, .pointer (some ⟨d, 0, none⟩)), (1, .int .i64 t), (5, .int .i64 4611686018427387903), (9, .int .i64 0), (10, .bool true)]) (by kernel_rfl) ?_
 refine At.cond 300 true (c := .tmp 10) (k1 := pt13_2) (k2 := pt13_3) (by kernel_rfl) (by intro u; kernel_rfl) (fun _ => ?_) (fun h => by cases h)
 refine At.pick [0, 1, 5, 9] (e' := [(0, .pointer (some ⟨d, 0, none⟩)), (1, .int .i64 t), (5, .int .i64 4611686018427387903), (9, .int .i64 0)]) (by kernel_rfl) ?_
 refine At.region (ops := opt13_2) (m := 2) (k' := kt13_7) (by kernel_rfl) 300 (k'' := pt13_4) (by kernel_rfl) ?_
 refine SOps.pures 2 (i' := 2) (m' := 0) (e' := [(6, .int .i64 0), (11, .int .i64 0), (0, .pointer (some ⟨d, 0, none⟩)), (1, .int .i64 t), (5, .int .i64 4611686018427387903), (9, .int .i64 0)]) (by intro u; kernel_rfl) ?_
 refine SOps.nil (.inl rfl) ?_
 refine At.pick [0, 1, 5, 6, 9] (e' := [(0, .pointer (some ⟨d, 0, none⟩)), (1, .int .i64 t), (5, .int .i64 4611686018427387903), (6, .int .i64 0), (9, .int .i64 0)]) (by kernel_rfl) ?_
 cases hh : (s.tick t).held 0 with
 | false =>
  refine At.region (ops := opt13_4) (m := 10) (k' := kt13_9) (by kernel_rfl) 300 (k'' := pt13_5) (by kernel_rfl) ?_
  refine SOps.pures 3 (i' := 3) (m' := 7) (e' := [(15, .int .i64 0), (14, .int .i64 t), (13, .pointer (some ⟨d, 0, none⟩)), (0, .pointer (some ⟨d, 0, none⟩)), (1, .int .i64 t), (5, .int .i64 4611686018427387903), (6, .int .i64 0), (9, .int .i64 0)]) (by intro u; kernel_rfl) ?_
  refine SOps.o (Op.callS 16 7 #[.pointer (some ⟨d, 0, none⟩), .int .i64 t, .int .i64 0] (.tuple #[.agg #[.int .i64 0, .int .i64 0, .int .i64 0], .bool false]) [0] (B := [DeskC d s]) (D := []) (by intro u; kernel_rfl) (ofNo d s t 0 (by omega) (by omega) hh) (by first | exact .inr rfl | exact .inl rfl) (by kernel_rfl) ?_)
  refine SOps.pures 3 (i' := 7) (m' := 3) (e' := [(18, .bool false), (17, .agg #[.int .i64 0, .int .i64 0, .int .i64 0]), (12, .tuple #[.agg #[.int .i64 0, .int .i64 0, .int .i64 0], .bool false]), (16, .tuple #[.agg #[.int .i64 0, .int .i64 0, .int .i64 0], .bool false]), (15, .int .i64 0), (14, .int .i64 t), (13, .pointer (some ⟨d, 0, none⟩)), (0, .pointer (some ⟨d, 0, none⟩)), (1, .int .i64 t), (5, .int .i64 4611686018427387903), (6, .int .i64 0), (9, .int .i64 0)]) (by intro u; kernel_rfl) ?_
  refine SOps.o (Op.new 7 27 [.int .i64 0, .int .i64 0, .int .i64 0] (fun b => .pointer (some ⟨b, 0, none⟩)) (by intro u b; kernel_rfl) ?_)
  intro bx1
  refine SOps.o (Op.st 0 27 bx1 0 (.agg #[.int .i64 0, .int .i64 0, .int .i64 0]) [.int .i64 0, .int .i64 0, .int .i64 0] 3 (B' := Cells bx1 27 [.int .i64 0, .int .i64 0, .int .i64 0]) (A' := [Cells bx1 27 [.int .i64 0, .int .i64 0, .int .i64 0], DeskC d (s.tick t)]) rfl (by intro u; kernel_rfl) rfl (by kernel_rfl) rfl rfl (Wr.cells rfl rfl) rfl ?_)
  refine SOps.pures 1 (i' := 10) (m' := 0) (e' := [(8, .bool false), (7, .pointer (some ⟨bx1, 0, none⟩)), (18, .bool false), (17, .agg #[.int .i64 0, .int .i64 0, .int .i64 0]), (12, .tuple #[.agg #[.int .i64 0, .int .i64 0, .int .i64 0], .bool false]), (16, .tuple #[.agg #[.int .i64 0, .int .i64 0, .int .i64 0], .bool false]), (15, .int .i64 0), (14, .int .i64 t), (13, .pointer (some ⟨d, 0, none⟩)), (0, .pointer (some ⟨d, 0, none⟩)), (1, .int .i64 t), (5, .int .i64 4611686018427387903), (6, .int .i64 0), (9, .int .i64 0)]) (by intro u; kernel_rfl) ?_
  refine SOps.nil (.inl rfl) ?_
  refine At.pick [0, 1, 5, 7, 8, 9] (e' := [(0, .pointer (some ⟨d, 0, none⟩)), (1, .int .i64 t), (5, .int .i64 4611686018427387903), (7, .pointer (some ⟨bx1, 0, none⟩)), (8, .bool false), (9, .int .i64 0)]) (by kernel_rfl) ?_
  refine At.region (ops := opt13_5) (m := 1) (k' := kt13_10) (by kernel_rfl) 300 (k'' := pt13_6) (by kernel_rfl) ?_
  refine SOps.pures 1 (i' := 1) (m' := 0) (e' := [(19, .bool false), (0, .pointer (some ⟨d, 0, none⟩)), (1, .int .i64 t), (5, .int .i64 4611686018427387903), (7, .pointer (some ⟨bx1, 0, none⟩)), (8, .bool false), (9, .int .i64 0)]) (by intro u; kernel_rfl) ?_
  refine SOps.nil (.inl rfl) ?_
  refine At.pick [0, 1, 5, 7, 9, 19] (e' := [(0, .pointer (some ⟨d, 0, none⟩)), (1, .int .i64 t), (5, .int .i64 4611686018427387903), (7, .pointer (some ⟨bx1, 0, none⟩)), (9, .int .i64 0), (19, .bool false)]) (by kernel_rfl) ?_
  refine At.cond 300 false (c := .tmp 19) (k1 := pt13_7) (k2 := pt13_8) (by kernel_rfl) (by intro u; kernel_rfl) (fun h => by cases h) (fun _ => ?_)
  refine At.pick [0, 1, 5, 9] (e' := [(0, .pointer (some ⟨d, 0, none⟩)), (1, .int .i64 t), (5, .int .i64 4611686018427387903), (9, .int .i64 0)]) (by kernel_rfl) ?_
  refine At.region (ops := opt13_8) (m := 2) (k' := kt13_2) (by kernel_rfl) 300 (k'' := pt13_0) (by kernel_rfl) ?_
  refine SOps.pures 2 (i' := 2) (m' := 0) (e' := [(9, .int .i64 1), (24, .int .i64 1), (0, .pointer (some ⟨d, 0, none⟩)), (1, .int .i64 t), (5, .int .i64 4611686018427387903), (9, .int .i64 0)]) (by intro u; kernel_rfl) ?_
  refine SOps.nil (.inl rfl) ?_
  refine At.pick [0, 1, 5, 9] (e' := [(0, .pointer (some ⟨d, 0, none⟩)), (1, .int .i64 t), (5, .int .i64 4611686018427387903), (9, .int .i64 1)]) (by kernel_rfl) ?_
  refine At.keep [1] (B := [DeskC d (s.tick t)]) (D := [Cells bx1 27 [.int .i64 0, .int .i64 0, .int .i64 0]]) rfl ?_
  exact nextF_loop d (s.tick t) t (tick_tick s t) 256 1 4611686018427387903 (by omega) (by omega) (by simp only [minP]; rw [show (s.tick t).held 0 = _ from hh]; first | rfl | (simp; rfl))
 | true =>
  refine At.region (ops := opt13_4) (m := 10) (k' := kt13_9) (by kernel_rfl) 300 (k'' := pt13_5) (by kernel_rfl) ?_
  refine SOps.pures 3 (i' := 3) (m' := 7) (e' := [(15, .int .i64 0), (14, .int .i64 t), (13, .pointer (some ⟨d, 0, none⟩)), (0, .pointer (some ⟨d, 0, none⟩)), (1, .int .i64 t), (5, .int .i64 4611686018427387903), (6, .int .i64 0), (9, .int .i64 0)]) (by intro u; kernel_rfl) ?_
  refine SOps.o (Op.callS 16 7 #[.pointer (some ⟨d, 0, none⟩), .int .i64 t, .int .i64 0] (.tuple #[.agg #[.int .i64 ((s.th 0).who), .int .i64 ((s.th 0).tok), .int .i64 ((s.th 0).fin)], .bool true]) [0] (B := [DeskC d s]) (D := []) (by intro u; kernel_rfl) (ofYes d s t 0 (by omega) (by omega) hh) (by first | exact .inr rfl | exact .inl rfl) (by kernel_rfl) ?_)
  refine SOps.pures 3 (i' := 7) (m' := 3) (e' := [(18, .bool true), (17, .agg #[.int .i64 ((s.th 0).who), .int .i64 ((s.th 0).tok), .int .i64 ((s.th 0).fin)]), (12, .tuple #[.agg #[.int .i64 ((s.th 0).who), .int .i64 ((s.th 0).tok), .int .i64 ((s.th 0).fin)], .bool true]), (16, .tuple #[.agg #[.int .i64 ((s.th 0).who), .int .i64 ((s.th 0).tok), .int .i64 ((s.th 0).fin)], .bool true]), (15, .int .i64 0), (14, .int .i64 t), (13, .pointer (some ⟨d, 0, none⟩)), (0, .pointer (some ⟨d, 0, none⟩)), (1, .int .i64 t), (5, .int .i64 4611686018427387903), (6, .int .i64 0), (9, .int .i64 0)]) (by intro u; kernel_rfl) ?_
  refine SOps.o (Op.new 7 27 [.int .i64 0, .int .i64 0, .int .i64 0] (fun b => .pointer (some ⟨b, 0, none⟩)) (by intro u b; kernel_rfl) ?_)
  intro bx1
  refine SOps.o (Op.st 0 27 bx1 0 (.agg #[.int .i64 ((s.th 0).who), .int .i64 ((s.th 0).tok), .int .i64 ((s.th 0).fin)]) [.int .i64 ((s.th 0).who), .int .i64 ((s.th 0).tok), .int .i64 ((s.th 0).fin)] 3 (B' := Cells bx1 27 [.int .i64 ((s.th 0).who), .int .i64 ((s.th 0).tok), .int .i64 ((s.th 0).fin)]) (A' := [Cells bx1 27 [.int .i64 ((s.th 0).who), .int .i64 ((s.th 0).tok), .int .i64 ((s.th 0).fin)], DeskC d (s.tick t)]) rfl (by intro u; kernel_rfl) rfl (by kernel_rfl) rfl rfl (Wr.cells rfl rfl) rfl ?_)
  refine SOps.pures 1 (i' := 10) (m' := 0) (e' := [(8, .bool true), (7, .pointer (some ⟨bx1, 0, none⟩)), (18, .bool true), (17, .agg #[.int .i64 ((s.th 0).who), .int .i64 ((s.th 0).tok), .int .i64 ((s.th 0).fin)]), (12, .tuple #[.agg #[.int .i64 ((s.th 0).who), .int .i64 ((s.th 0).tok), .int .i64 ((s.th 0).fin)], .bool true]), (16, .tuple #[.agg #[.int .i64 ((s.th 0).who), .int .i64 ((s.th 0).tok), .int .i64 ((s.th 0).fin)], .bool true]), (15, .int .i64 0), (14, .int .i64 t), (13, .pointer (some ⟨d, 0, none⟩)), (0, .pointer (some ⟨d, 0, none⟩)), (1, .int .i64 t), (5, .int .i64 4611686018427387903), (6, .int .i64 0), (9, .int .i64 0)]) (by intro u; kernel_rfl) ?_
  refine SOps.nil (.inl rfl) ?_
  refine At.pick [0, 1, 5, 7, 8, 9] (e' := [(0, .pointer (some ⟨d, 0, none⟩)), (1, .int .i64 t), (5, .int .i64 4611686018427387903), (7, .pointer (some ⟨bx1, 0, none⟩)), (8, .bool true), (9, .int .i64 0)]) (by kernel_rfl) ?_
  refine At.region (ops := opt13_5) (m := 1) (k' := kt13_10) (by kernel_rfl) 300 (k'' := pt13_6) (by kernel_rfl) ?_
  refine SOps.pures 1 (i' := 1) (m' := 0) (e' := [(19, .bool true), (0, .pointer (some ⟨d, 0, none⟩)), (1, .int .i64 t), (5, .int .i64 4611686018427387903), (7, .pointer (some ⟨bx1, 0, none⟩)), (8, .bool true), (9, .int .i64 0)]) (by intro u; kernel_rfl) ?_
  refine SOps.nil (.inl rfl) ?_
  refine At.pick [0, 1, 5, 7, 9, 19] (e' := [(0, .pointer (some ⟨d, 0, none⟩)), (1, .int .i64 t), (5, .int .i64 4611686018427387903), (7, .pointer (some ⟨bx1, 0, none⟩)), (9, .int .i64 0), (19, .bool true)]) (by kernel_rfl) ?_
  refine At.cond 300 true (c := .tmp 19) (k1 := pt13_7) (k2 := pt13_8) (by kernel_rfl) (by intro u; kernel_rfl) (fun _ => ?_) (fun h => by cases h)
  refine At.pick [0, 1, 5, 7, 9] (e' := [(0, .pointer (some ⟨d, 0, none⟩)), (1, .int .i64 t), (5, .int .i64 4611686018427387903), (7, .pointer (some ⟨bx1, 0, none⟩)), (9, .int .i64 0)]) (by kernel_rfl) ?_
  refine At.region (ops := opt13_7) (m := 5) (k' := kt13_6) (by kernel_rfl) 300 (k'' := pt13_8) (by kernel_rfl) ?_
  refine SOps.pures 2 (i' := 2) (m' := 3) (e' := [(21, .pointer (some ⟨bx1, 2, none⟩)), (20, .int .i64 4611686018427387903), (0, .pointer (some ⟨d, 0, none⟩)), (1, .int .i64 t), (5, .int .i64 4611686018427387903), (7, .pointer (some ⟨bx1, 0, none⟩)), (9, .int .i64 0)]) (by intro u; kernel_rfl) ?_
  refine SOps.v (Val.ld1 0 22 3 bx1 2 (.int .i64 ((s.th 0).fin)) rfl (by intro u; kernel_rfl) (by kernel_rfl) (Rd.cells rfl)) ?_
  refine SOps.v (Val.pe 23 (.int .i64 (if (s.th 0).fin < 4611686018427387903 then (s.th 0).fin else 4611686018427387903)) (.int .i64 (min 4611686018427387903 ((s.th 0).fin))) (by intro u; kernel_rfl) (int_min _ _ _)) ?_
  refine SOps.pures 1 (i' := 5) (m' := 0) (e' := [(5, .int .i64 (min 4611686018427387903 ((s.th 0).fin))), (23, .int .i64 (min 4611686018427387903 ((s.th 0).fin))), (22, .int .i64 ((s.th 0).fin)), (21, .pointer (some ⟨bx1, 2, none⟩)), (20, .int .i64 4611686018427387903), (0, .pointer (some ⟨d, 0, none⟩)), (1, .int .i64 t), (5, .int .i64 4611686018427387903), (7, .pointer (some ⟨bx1, 0, none⟩)), (9, .int .i64 0)]) (by intro u; kernel_rfl) ?_
  refine SOps.nil (.inl rfl) ?_
  refine At.pick [0, 1, 5, 9] (e' := [(0, .pointer (some ⟨d, 0, none⟩)), (1, .int .i64 t), (5, .int .i64 (min 4611686018427387903 ((s.th 0).fin))), (9, .int .i64 0)]) (by kernel_rfl) ?_
  refine At.region (ops := opt13_8) (m := 2) (k' := kt13_2) (by kernel_rfl) 300 (k'' := pt13_0) (by kernel_rfl) ?_
  refine SOps.pures 2 (i' := 2) (m' := 0) (e' := [(9, .int .i64 1), (24, .int .i64 1), (0, .pointer (some ⟨d, 0, none⟩)), (1, .int .i64 t), (5, .int .i64 (min 4611686018427387903 ((s.th 0).fin))), (9, .int .i64 0)]) (by intro u; kernel_rfl) ?_
  refine SOps.nil (.inl rfl) ?_
  refine At.pick [0, 1, 5, 9] (e' := [(0, .pointer (some ⟨d, 0, none⟩)), (1, .int .i64 t), (5, .int .i64 (min 4611686018427387903 ((s.th 0).fin))), (9, .int .i64 1)]) (by kernel_rfl) ?_
  refine At.keep [1] (B := [DeskC d (s.tick t)]) (D := [Cells bx1 27 [.int .i64 ((s.th 0).who), .int .i64 ((s.th 0).tok), .int .i64 ((s.th 0).fin)]]) rfl ?_
  exact nextF_loop d (s.tick t) t (tick_tick s t) 256 1 (min 4611686018427387903 ((s.th 0).fin)) (by omega) (by omega) (by simp only [minP]; rw [show (s.tick t).held 0 = _ from hh]; first | rfl | (simp; rfl))
theorem nextFN_loop (t : Int) : ∀ (mm k : Nat), 256 - k < mm → k ≤ 256 → At ⟨Try.prog, 13, (fun v' => star (fact (v' = .int .i64 4611686018427387903) :: [])), 26, false⟩ pt13_0 [(0, .pointer none), (1, .int .i64 t), (5, .int .i64 4611686018427387903), (9, .int .i64 (k : Int))] [] := by
 intro mm
 induction mm with
 | zero => intro k h; omega
 | succ mm ih =>
  intro k hm hk
  refine At.region (ops := opt13_0) (m := 1) (k' := kt13_3) (by kernel_rfl) 300 (k'' := pt13_1) (by kernel_rfl) ?_
  refine SOps.pures 1 (i' := 1) (m' := 0) (e' := [(10, .bool (decide ((k : Int) < 256))), (0, .pointer none), (1, .int .i64 t), (5, .int .i64 4611686018427387903), (9, .int .i64 (k : Int))]) (by intro u; kernel_rfl) ?_
  refine SOps.nil (.inl rfl) ?_
  refine At.pick [0, 1, 5, 9, 10] (e' := [(0, .pointer none), (1, .int .i64 t), (5, .int .i64 4611686018427387903), (9, .int .i64 (k : Int)), (10, .bool (decide ((k : Int) < 256)))]) (by kernel_rfl) ?_
  refine At.split (fun zq => [(0, .pointer none), (1, .int .i64 t), (5, .int .i64 4611686018427387903), (9, .int .i64 (k : Int)), (10, .bool zq)]) (decide ((k : Int) < 256)) (fun hx1 => ?_) (fun hx1 => ?_)
  ·have hx1 : (k : Int) < 256 := by simpa using hx1
   refine At.cond 300 true (c := .tmp 10) (k1 := pt13_2) (k2 := pt13_3) (by kernel_rfl) (by intro u; kernel_rfl) (fun _ => ?_) (fun h => by cases h)
   refine At.pick [0, 1, 5, 9] (e' := [(0, .pointer none), (1, .int .i64 t), (5, .int .i64 4611686018427387903), (9, .int .i64 (k : Int))]) (by kernel_rfl) ?_
   refine At.region (ops := opt13_2) (m := 2) (k' := kt13_7) (by kernel_rfl) 300 (k'' := pt13_4) (by kernel_rfl) ?_
   refine SOps.pures 2 (i' := 2) (m' := 0) (e' := [(6, .int .i64 (k : Int)), (11, .int .i64 (k : Int)), (0, .pointer none), (1, .int .i64 t), (5, .int .i64 4611686018427387903), (9, .int .i64 (k : Int))]) (by intro u; kernel_rfl) ?_
   refine SOps.nil (.inl rfl) ?_
   refine At.pick [0, 1, 5, 6, 9] (e' := [(0, .pointer none), (1, .int .i64 t), (5, .int .i64 4611686018427387903), (6, .int .i64 (k : Int)), (9, .int .i64 (k : Int))]) (by kernel_rfl) ?_
   refine At.region (ops := opt13_4) (m := 10) (k' := kt13_9) (by kernel_rfl) 300 (k'' := pt13_5) (by kernel_rfl) ?_
   refine SOps.pures 3 (i' := 3) (m' := 7) (e' := [(15, .int .i64 (k : Int)), (14, .int .i64 t), (13, .pointer none), (0, .pointer none), (1, .int .i64 t), (5, .int .i64 4611686018427387903), (6, .int .i64 (k : Int)), (9, .int .i64 (k : Int))]) (by intro u; kernel_rfl) ?_
   refine SOps.o (Op.callS 16 7 #[.pointer none, .int .i64 t, .int .i64 (k : Int)] (.tuple #[.agg #[.int .i64 0, .int .i64 0, .int .i64 0], .bool false]) [] (B := []) (D := []) (by intro u; kernel_rfl) (ofN t (k : Int)) (by first | exact .inr rfl | exact .inl rfl) (by kernel_rfl) ?_)
   refine SOps.pures 3 (i' := 7) (m' := 3) (e' := [(18, .bool false), (17, .agg #[.int .i64 0, .int .i64 0, .int .i64 0]), (12, .tuple #[.agg #[.int .i64 0, .int .i64 0, .int .i64 0], .bool false]), (16, .tuple #[.agg #[.int .i64 0, .int .i64 0, .int .i64 0], .bool false]), (15, .int .i64 (k : Int)), (14, .int .i64 t), (13, .pointer none), (0, .pointer none), (1, .int .i64 t), (5, .int .i64 4611686018427387903), (6, .int .i64 (k : Int)), (9, .int .i64 (k : Int))]) (by intro u; kernel_rfl) ?_
   refine SOps.o (Op.new 7 27 [.int .i64 0, .int .i64 0, .int .i64 0] (fun b => .pointer (some ⟨b, 0, none⟩)) (by intro u b; kernel_rfl) ?_)
   intro bx2
   refine SOps.o (Op.st 0 27 bx2 0 (.agg #[.int .i64 0, .int .i64 0, .int .i64 0]) [.int .i64 0, .int .i64 0, .int .i64 0] 3 (B' := Cells bx2 27 [.int .i64 0, .int .i64 0, .int .i64 0]) (A' := [Cells bx2 27 [.int .i64 0, .int .i64 0, .int .i64 0]]) rfl (by intro u; kernel_rfl) rfl (by kernel_rfl) rfl rfl (Wr.cells rfl rfl) rfl ?_)
   refine SOps.pures 1 (i' := 10) (m' := 0) (e' := [(8, .bool false), (7, .pointer (some ⟨bx2, 0, none⟩)), (18, .bool false), (17, .agg #[.int .i64 0, .int .i64 0, .int .i64 0]), (12, .tuple #[.agg #[.int .i64 0, .int .i64 0, .int .i64 0], .bool false]), (16, .tuple #[.agg #[.int .i64 0, .int .i64 0, .int .i64 0], .bool false]), (15, .int .i64 (k : Int)), (14, .int .i64 t), (13, .pointer none), (0, .pointer none), (1, .int .i64 t), (5, .int .i64 4611686018427387903), (6, .int .i64 (k : Int)), (9, .int .i64 (k : Int))]) (by intro u; kernel_rfl) ?_
   refine SOps.nil (.inl rfl) ?_
   refine At.pick [0, 1, 5, 7, 8, 9] (e' := [(0, .pointer none), (1, .int .i64 t), (5, .int .i64 4611686018427387903), (7, .pointer (some ⟨bx2, 0, none⟩)), (8, .bool false), (9, .int .i64 (k : Int))]) (by kernel_rfl) ?_
   refine At.region (ops := opt13_5) (m := 1) (k' := kt13_10) (by kernel_rfl) 300 (k'' := pt13_6) (by kernel_rfl) ?_
   refine SOps.pures 1 (i' := 1) (m' := 0) (e' := [(19, .bool false), (0, .pointer none), (1, .int .i64 t), (5, .int .i64 4611686018427387903), (7, .pointer (some ⟨bx2, 0, none⟩)), (8, .bool false), (9, .int .i64 (k : Int))]) (by intro u; kernel_rfl) ?_
   refine SOps.nil (.inl rfl) ?_
   refine At.pick [0, 1, 5, 7, 9, 19] (e' := [(0, .pointer none), (1, .int .i64 t), (5, .int .i64 4611686018427387903), (7, .pointer (some ⟨bx2, 0, none⟩)), (9, .int .i64 (k : Int)), (19, .bool false)]) (by kernel_rfl) ?_
   refine At.cond 300 false (c := .tmp 19) (k1 := pt13_7) (k2 := pt13_8) (by kernel_rfl) (by intro u; kernel_rfl) (fun h => by cases h) (fun _ => ?_)
   refine At.pick [0, 1, 5, 9] (e' := [(0, .pointer none), (1, .int .i64 t), (5, .int .i64 4611686018427387903), (9, .int .i64 (k : Int))]) (by kernel_rfl) ?_
   refine At.region (ops := opt13_8) (m := 2) (k' := kt13_2) (by kernel_rfl) 300 (k'' := pt13_0) (by kernel_rfl) ?_
   refine SOps.v (Val.pe 24 (.int .i64 (IntKind.i64.wrap ((k : Int) + 1))) (.int .i64 ((k + 1 : Nat) : Int)) (by intro u; kernel_rfl) (i64_in (by omega) (by omega) (by omega))) ?_
   refine SOps.pures 1 (i' := 2) (m' := 0) (e' := [(9, .int .i64 ((k + 1 : Nat) : Int)), (24, .int .i64 ((k + 1 : Nat) : Int)), (0, .pointer none), (1, .int .i64 t), (5, .int .i64 4611686018427387903), (9, .int .i64 (k : Int))]) (by intro u; kernel_rfl) ?_
   refine SOps.nil (.inl rfl) ?_
   refine At.pick [0, 1, 5, 9] (e' := [(0, .pointer none), (1, .int .i64 t), (5, .int .i64 4611686018427387903), (9, .int .i64 ((k + 1 : Nat) : Int))]) (by kernel_rfl) ?_
   refine At.keep [] (B := []) (D := [Cells bx2 27 [.int .i64 0, .int .i64 0, .int .i64 0]]) rfl ?_
   exact ih (k + 1) (by omega) (by omega)
  ·have hx1 : (k : Int) ≥ 256 := by simpa using hx1
   refine At.cond 300 false (c := .tmp 10) (k1 := pt13_2) (k2 := pt13_3) (by kernel_rfl) (by intro u; kernel_rfl) (fun h => by cases h) (fun _ => ?_)
   refine At.pick [5] (e' := [(5, .int .i64 4611686018427387903)]) (by kernel_rfl) ?_
   refine At.region (ops := opt13_3) (m := 2) (k' := kt13_8) (by kernel_rfl) 300 (k'' := pt13_9) (by kernel_rfl) ?_
   refine SOps.pures 2 (i' := 2) (m' := 0) (e' := [(4, .int .i64 4611686018427387903), (25, .int .i64 4611686018427387903), (5, .int .i64 4611686018427387903)]) (by intro u; kernel_rfl) ?_
   refine SOps.nil (.inl rfl) ?_
   refine At.pick [4] (e' := [(4, .int .i64 4611686018427387903)]) (by kernel_rfl) ?_
   refine At.ret1 (fn := Try.f13) (v := .int .i64 4611686018427387903) (t := 4) (by kernel_rfl) Try.func13 (by kernel_rfl) (by kernel_rfl) (fun F w ho => ?_)
   exact shutV rfl [] rfl ho
theorem nextFN (t : Int) : Ctr Try.prog 13 #[.pointer none, .int .i64 t] [] (fun v' => star (fact (v' = .int .i64 4611686018427387903) :: [])) false := by
 refine spec_of_at (fn := Try.f13) (c := bd13) (args := [.pointer none, .int .i64 t]) (n := 26) (e := [(0, .pointer none), (1, .int .i64 t)]) (k := pt13_10) Try.func13 (by kernel_rfl) (by kernel_rfl) (by kernel_rfl) (by kernel_rfl) 300 (by kernel_rfl) ?_
 refine At.region (ops := opt13_10) (m := 1) (k' := kt13_11) (by kernel_rfl) 300 (k'' := pt13_11) (by kernel_rfl) ?_
 refine SOps.pures 1 (i' := 1) (m' := 0) (e' := [(4, .int .i64 0), (0, .pointer none), (1, .int .i64 t)]) (by intro u; kernel_rfl) ?_
 refine SOps.nil (.inl rfl) ?_
 refine At.pick [0, 1] (e' := [(0, .pointer none), (1, .int .i64 t)]) (by kernel_rfl) ?_
 refine At.region (ops := opt13_11) (m := 1) (k' := kt13_12) (by kernel_rfl) 300 (k'' := pt13_12) (by kernel_rfl) ?_
 refine SOps.pures 1 (i' := 1) (m' := 0) (e' := [(5, .int .i64 4611686018427387903), (0, .pointer none), (1, .int .i64 t)]) (by intro u; kernel_rfl) ?_
 refine SOps.nil (.inl rfl) ?_
 refine At.pick [0, 1, 5] (e' := [(0, .pointer none), (1, .int .i64 t), (5, .int .i64 4611686018427387903)]) (by kernel_rfl) ?_
 refine At.region (ops := opt13_12) (m := 1) (k' := kt13_13) (by kernel_rfl) 300 (k'' := pt13_0) (by kernel_rfl) ?_
 refine SOps.pures 1 (i' := 1) (m' := 0) (e' := [(9, .int .i64 0), (0, .pointer none), (1, .int .i64 t), (5, .int .i64 4611686018427387903)]) (by intro u; kernel_rfl) ?_
 refine SOps.nil (.inl rfl) ?_
 refine At.pick [0, 1, 5, 9] (e' := [(0, .pointer none), (1, .int .i64 t), (5, .int .i64 4611686018427387903), (9, .int .i64 0)]) (by kernel_rfl) ?_
 exact nextFN_loop t 257 0 (by omega) (by omega)
noncomputable def bd6 : Code := (Try.f6.body).getD .skip
noncomputable def kt6_0 : List Item := .code (pick [1] bd6) :: []
noncomputable def pt6_0 : List Item := .code (pick [0] bd6) :: kt6_0
noncomputable def opt6_0 : Array Oper := opsOf (pick [0] bd6)
noncomputable def kt6_1 : List Item := .code (pick [1, 1] bd6) :: []
noncomputable def kt6_2 : List Item := .code (pick [1, 0, 1] bd6) :: kt6_1
noncomputable def pt6_1 : List Item := .code (pick [1, 0, 0] bd6) :: kt6_2
noncomputable def opt6_1 : Array Oper := opsOf (pick [1, 0, 0] bd6)
noncomputable def pt6_2 : List Item := .code (pick [1, 0, 1] bd6) :: kt6_1
noncomputable def kt6_3 : List Item := .code (pick [1, 0, 1, 0, 1] bd6) :: kt6_1
noncomputable def pt6_3 : List Item := .code (pick [1, 0, 1, 0, 0] bd6) :: kt6_3
noncomputable def opt6_3 : Array Oper := opsOf (pick [1, 0, 1, 0, 0] bd6)
noncomputable def kt6_4 : List Item := .code (pick [1, 1, 1] bd6) :: []
noncomputable def pt6_4 : List Item := .code (pick [1, 1, 0] bd6) :: kt6_4
noncomputable def opt6_4 : Array Oper := opsOf (pick [1, 1, 0] bd6)
noncomputable def pt6_5 : List Item := .code (pick [1, 0, 1, 0, 1] bd6) :: kt6_1
noncomputable def kt6_5 : List Item := .code (pick [1, 1, 1, 1] bd6) :: []
noncomputable def kt6_6 : List Item := .inBlock 0 :: kt6_5
noncomputable def kt6_7 : List Item := .inLoop (pick [1, 1, 1, 0, 1, 0, 0] bd6) :: kt6_6
noncomputable def kt6_8 : List Item := .code (pick [1, 1, 1, 0, 1, 0, 0, 1] bd6) :: kt6_7
noncomputable def pt6_6 : List Item := .code (pick [1, 1, 1, 0, 1, 0, 0, 0] bd6) :: kt6_8
noncomputable def opt6_6 : Array Oper := opsOf (pick [1, 1, 1, 0, 1, 0, 0, 0] bd6)
noncomputable def kt6_9 : List Item := .code (pick [1, 1, 1, 0, 1, 0, 0, 1, 1] bd6) :: kt6_7
noncomputable def pt6_7 : List Item := .code (pick [1, 1, 1, 0, 1, 0, 0, 1, 0] bd6) :: kt6_9
noncomputable def kt6_10 : List Item := .code (pick [1, 1, 1, 0, 1, 0, 0, 1, 1, 1] bd6) :: kt6_7
noncomputable def kt6_11 : List Item := .inBlock 1 :: kt6_10
noncomputable def kt6_12 : List Item := .code (pick [1, 1, 1, 0, 1, 0, 0, 1, 1, 0, 0, 1] bd6) :: kt6_11
noncomputable def pt6_8 : List Item := .code (pick [1, 1, 1, 0, 1, 0, 0, 1, 1, 0, 0, 0] bd6) :: kt6_12
noncomputable def opt6_8 : Array Oper := opsOf (pick [1, 1, 1, 0, 1, 0, 0, 1, 1, 0, 0, 0] bd6)
noncomputable def kt6_13 : List Item := .code (pick [1, 1, 1, 1, 1] bd6) :: []
noncomputable def pt6_9 : List Item := .code (pick [1, 1, 1, 1, 0] bd6) :: kt6_13
noncomputable def opt6_9 : Array Oper := opsOf (pick [1, 1, 1, 1, 0] bd6)
noncomputable def pt6_10 : List Item := .code (pick [1, 1, 1, 0, 1, 0, 0, 1, 1, 0, 0, 1] bd6) :: kt6_11
noncomputable def opt6_10 : Array Oper := opsOf (pick [1, 1, 1, 0, 1, 0, 0, 1, 1, 0, 0, 1] bd6)
noncomputable def pt6_11 : List Item := .code (pick [1, 1, 1, 0, 1, 0, 0, 1, 1, 1] bd6) :: kt6_7
noncomputable def opt6_11 : Array Oper := opsOf (pick [1, 1, 1, 0, 1, 0, 0, 1, 1, 1] bd6)
noncomputable def pt6_12 : List Item := .code (pick [1, 1, 1, 1, 1] bd6) :: []
noncomputable def kt6_14 : List Item := .code (pick [1, 1, 1, 0, 1] bd6) :: kt6_5
noncomputable def pt6_13 : List Item := .code (pick [1, 1, 1, 0, 0] bd6) :: kt6_14
noncomputable def opt6_13 : Array Oper := opsOf (pick [1, 1, 1, 0, 0] bd6)
theorem newN1 (g : Int) (hg : g < 0) : Ctr Try.prog 6 #[.int .i64 g] [] (fun v' => star (fact (v' = .pointer none) :: [])) false := by
 refine spec_of_at (fn := Try.f6) (c := bd6) (args := [.int .i64 g]) (n := 24) (e := [(0, .int .i64 g)]) (k := pt6_0) Try.func6 (by kernel_rfl) (by kernel_rfl) (by kernel_rfl) (by kernel_rfl) 300 (by kernel_rfl) ?_
 refine At.region (ops := opt6_0) (m := 1) (k' := kt6_0) (by kernel_rfl) 300 (k'' := pt6_1) (by kernel_rfl) ?_
 refine SOps.pures 1 (i' := 1) (m' := 0) (e' := [(2, .pointer none), (0, .int .i64 g)]) (by intro u; kernel_rfl) ?_
 refine SOps.nil (.inl rfl) ?_
 refine At.pick [0] (e' := [(0, .int .i64 g)]) (by kernel_rfl) ?_
 refine At.region (ops := opt6_1) (m := 6) (k' := kt6_2) (by kernel_rfl) 300 (k'' := pt6_2) (by kernel_rfl) ?_
 refine SOps.pures 3 (i' := 3) (m' := 3) (e' := [(7, .bool (decide (g < 0))), (6, .bool (decide (g < 0))), (5, .int .i64 g), (0, .int .i64 g)]) (by intro u; kernel_rfl) ?_
 refine SOps.split (fun zq => [(7, .bool zq), (6, .bool zq), (5, .int .i64 g), (0, .int .i64 g)]) (decide (g < 0)) (fun hx1 => ?_) (fun hx1 => ?_)
 ·have hx1 : g < 0 := by simpa using hx1
  refine SOps.pures 3 (i' := 6) (m' := 0) (e' := [(10, .bool true), (9, .tuple #[]), (8, .tuple #[]), (7, .bool true), (6, .bool true), (5, .int .i64 g), (0, .int .i64 g)]) (by intro u; kernel_rfl) ?_
  refine SOps.nil (.inl rfl) ?_
  refine At.pick [0, 10] (e' := [(0, .int .i64 g), (10, .bool true)]) (by kernel_rfl) ?_
  refine At.cond 300 true (c := .tmp 10) (k1 := pt6_3) (k2 := pt6_4) (by kernel_rfl) (by intro u; kernel_rfl) (fun _ => ?_) (fun h => by cases h)
  refine At.pick [] (e' := []) (by kernel_rfl) ?_
  refine At.region (ops := opt6_3) (m := 1) (k' := kt6_3) (by kernel_rfl) 300 (k'' := pt6_5) (by kernel_rfl) ?_
  refine SOps.pures 1 (i' := 1) (m' := 0) (e' := [(2, .pointer none)]) (by intro u; kernel_rfl) ?_
  refine SOps.nil (.inl rfl) ?_
  refine At.ret1 (fn := Try.f6) (v := .pointer none) (t := 2) (by kernel_rfl) Try.func6 (by kernel_rfl) (by kernel_rfl) (fun F w ho => ?_)
  exact shutV rfl [] rfl ho
 ·have hx1 : g ≥ 0 := by simpa using hx1
  exact absurd hx1 (by omega)
theorem newN2 (g : Int) (hg : 1099511627776 < g) : Ctr Try.prog 6 #[.int .i64 g] [] (fun v' => star (fact (v' = .pointer none) :: [])) false := by
 refine spec_of_at (fn := Try.f6) (c := bd6) (args := [.int .i64 g]) (n := 24) (e := [(0, .int .i64 g)]) (k := pt6_0) Try.func6 (by kernel_rfl) (by kernel_rfl) (by kernel_rfl) (by kernel_rfl) 300 (by kernel_rfl) ?_
 refine At.region (ops := opt6_0) (m := 1) (k' := kt6_0) (by kernel_rfl) 300 (k'' := pt6_1) (by kernel_rfl) ?_
 refine SOps.pures 1 (i' := 1) (m' := 0) (e' := [(2, .pointer none), (0, .int .i64 g)]) (by intro u; kernel_rfl) ?_
 refine SOps.nil (.inl rfl) ?_
 refine At.pick [0] (e' := [(0, .int .i64 g)]) (by kernel_rfl) ?_
 refine At.region (ops := opt6_1) (m := 6) (k' := kt6_2) (by kernel_rfl) 300 (k'' := pt6_2) (by kernel_rfl) ?_
 refine SOps.pures 3 (i' := 3) (m' := 3) (e' := [(7, .bool (decide (g < 0))), (6, .bool (decide (g < 0))), (5, .int .i64 g), (0, .int .i64 g)]) (by intro u; kernel_rfl) ?_
 refine SOps.split (fun zq => [(7, .bool zq), (6, .bool zq), (5, .int .i64 g), (0, .int .i64 g)]) (decide (g < 0)) (fun hx1 => ?_) (fun hx1 => ?_)
 ·have hx1 : g < 0 := by simpa using hx1
  exact absurd hx1 (by omega)
 ·have hx1 : g ≥ 0 := by simpa using hx1
  refine SOps.pures 3 (i' := 6) (m' := 0) (e' := [(10, .bool (decide (g > 1099511627776))), (9, .bool (decide (g > 1099511627776))), (8, .int .i64 g), (7, .bool false), (6, .bool false), (5, .int .i64 g), (0, .int .i64 g)]) (by intro u; kernel_rfl) ?_
  refine SOps.nil (.inl rfl) ?_
  refine At.pick [0, 10] (e' := [(0, .int .i64 g), (10, .bool (decide (g > 1099511627776)))]) (by kernel_rfl) ?_
  refine At.split (fun zq => [(0, .int .i64 g), (10, .bool zq)]) (decide (g > 1099511627776)) (fun hx2 => ?_) (fun hx2 => ?_)
  ·have hx2 : g > 1099511627776 := by simpa using hx2
   refine At.cond 300 true (c := .tmp 10) (k1 := pt6_3) (k2 := pt6_4) (by kernel_rfl) (by intro u; kernel_rfl) (fun _ => ?_) (fun h => by cases h)
   refine At.pick [] (e' := []) (by kernel_rfl) ?_
   refine At.region (ops := opt6_3) (m := 1) (k' := kt6_3) (by kernel_rfl) 300 (k'' := pt6_5) (by kernel_rfl) ?_
   refine SOps.pures 1 (i' := 1) (m' := 0) (e' := [(2, .pointer none)]) (by intro u; kernel_rfl) ?_
   refine SOps.nil (.inl rfl) ?_
   refine At.ret1 (fn := Try.f6) (v := .pointer none) (t := 2) (by kernel_rfl) Try.func6 (by kernel_rfl) (by kernel_rfl) (fun F w ho => ?_)
   exact shutV rfl [] rfl ho
  ·have hx2 : g ≤ 1099511627776 := by simpa using hx2
   exact absurd hx2 (by omega)
theorem new_loop (g : Int) (d : Nat) : ∀ (mm k : Nat), 256 - k < mm → k ≤ 256 → At ⟨Try.prog, 6, (fun v' => ex fun d : Nat => fact (v' = .pointer (some ⟨d, 0, none⟩)) :: fact True :: [DeskC d (newD g)]), 24, false⟩ pt6_6 [(3, .pointer (some ⟨d, 0, none⟩)), (14, .int .i64 (k : Int))] [DeskC d (⟨g, -4611686018427387903, fun j => ⟨0, 0, 0, decide (j < k)⟩⟩ : De)] := by
 intro mm
 induction mm with
 | zero => intro k h; omega
 | succ mm ih =>
  intro k hm hk
  refine At.region (ops := opt6_6) (m := 1) (k' := kt6_8) (by kernel_rfl) 300 (k'' := pt6_7) (by kernel_rfl) ?_
  refine SOps.pures 1 (i' := 1) (m' := 0) (e' := [(15, .bool (decide ((k : Int) < 256))), (3, .pointer (some ⟨d, 0, none⟩)), (14, .int .i64 (k : Int))]) (by intro u; kernel_rfl) ?_
  refine SOps.nil (.inl rfl) ?_
  refine At.pick [3, 14, 15] (e' := [(3, .pointer (some ⟨d, 0, none⟩)), (14, .int .i64 (k : Int)), (15, .bool (decide ((k : Int) < 256)))]) (by kernel_rfl) ?_
  refine At.split (fun zq => [(3, .pointer (some ⟨d, 0, none⟩)), (14, .int .i64 (k : Int)), (15, .bool zq)]) (decide ((k : Int) < 256)) (fun hx1 => ?_) (fun hx1 => ?_)
  ·have hx1 : (k : Int) < 256 := by simpa using hx1
   refine At.cond 300 true (c := .tmp 15) (k1 := pt6_8) (k2 := pt6_9) (by kernel_rfl) (by intro u; kernel_rfl) (fun _ => ?_) (fun h => by cases h)
   refine At.pick [3, 14] (e' := [(3, .pointer (some ⟨d, 0, none⟩)), (14, .int .i64 (k : Int))]) (by kernel_rfl) ?_
   refine At.region (ops := opt6_8) (m := 2) (k' := kt6_12) (by kernel_rfl) 300 (k'' := pt6_10) (by kernel_rfl) ?_
   refine SOps.pures 2 (i' := 2) (m' := 0) (e' := [(4, .int .i64 (k : Int)), (16, .int .i64 (k : Int)), (3, .pointer (some ⟨d, 0, none⟩)), (14, .int .i64 (k : Int))]) (by intro u; kernel_rfl) ?_
   refine SOps.nil (.inl rfl) ?_
   refine At.pick [3, 4, 14] (e' := [(3, .pointer (some ⟨d, 0, none⟩)), (4, .int .i64 (k : Int)), (14, .int .i64 (k : Int))]) (by kernel_rfl) ?_
   refine At.region (ops := opt6_10) (m := 6) (k' := kt6_11) (by kernel_rfl) 300 (k'' := pt6_11) (by kernel_rfl) ?_
   refine SOps.pures 4 (i' := 4) (m' := 2) (e' := [(20, .pointer (some ⟨d, 770, none⟩)), (19, .pointer (some ⟨d, 0, none⟩)), (18, .int .i64 (k : Int)), (17, .pointer (some ⟨d, 0, none⟩)), (3, .pointer (some ⟨d, 0, none⟩)), (4, .int .i64 (k : Int)), (14, .int .i64 (k : Int))]) (by intro u; kernel_rfl) ?_
   refine SOps.v (Val.pv 21 (vN (Instr.indexAt 49 (.pointer (some ⟨d, 770, none⟩)) (.int .i64 (k : Int)))) (.pointer (some ⟨d, 770 + k, none⟩)) (by intro u; kernel_rfl) (pv_indexA (el := 4) (sz := 1) (by kernel_rfl) (by kernel_rfl) (by omega) (by omega) (by omega))) ?_
   refine SOps.o (Op.st 0 4 d (770 + k) (.bool true) [.bool true] 1 (B' := DeskC d ((⟨g, -4611686018427387903, fun j => ⟨0, 0, 0, decide (j < k)⟩⟩ : De).put k ⟨((⟨g, -4611686018427387903, fun j => ⟨0, 0, 0, decide (j < k)⟩⟩ : De).th k).who, ((⟨g, -4611686018427387903, fun j => ⟨0, 0, 0, decide (j < k)⟩⟩ : De).th k).tok, ((⟨g, -4611686018427387903, fun j => ⟨0, 0, 0, decide (j < k)⟩⟩ : De).th k).fin, true⟩)) (A' := [DeskC d ((⟨g, -4611686018427387903, fun j => ⟨0, 0, 0, decide (j < k)⟩⟩ : De).put k ⟨((⟨g, -4611686018427387903, fun j => ⟨0, 0, 0, decide (j < k)⟩⟩ : De).th k).who, ((⟨g, -4611686018427387903, fun j => ⟨0, 0, 0, decide (j < k)⟩⟩ : De).th k).tok, ((⟨g, -4611686018427387903, fun j => ⟨0, 0, 0, decide (j < k)⟩⟩ : De).th k).fin, true⟩)]) rfl (by intro u; kernel_rfl) rfl (by kernel_rfl) rfl rfl (Wr.given (k := k) (by omega) _) rfl ?_)
   refine SOps.nil (.inl rfl) ?_
   refine At.pick [3, 14] (e' := [(3, .pointer (some ⟨d, 0, none⟩)), (14, .int .i64 (k : Int))]) (by kernel_rfl) ?_
   refine At.region (ops := opt6_11) (m := 2) (k' := kt6_7) (by kernel_rfl) 300 (k'' := pt6_6) (by kernel_rfl) ?_
   refine SOps.v (Val.pe 22 (.int .i64 (IntKind.i64.wrap ((k : Int) + 1))) (.int .i64 ((k + 1 : Nat) : Int)) (by intro u; kernel_rfl) (i64_in (by omega) (by omega) (by omega))) ?_
   refine SOps.pures 1 (i' := 2) (m' := 0) (e' := [(14, .int .i64 ((k + 1 : Nat) : Int)), (22, .int .i64 ((k + 1 : Nat) : Int)), (3, .pointer (some ⟨d, 0, none⟩)), (14, .int .i64 (k : Int))]) (by intro u; kernel_rfl) ?_
   refine SOps.nil (.inl rfl) ?_
   refine At.pick [3, 14] (e' := [(3, .pointer (some ⟨d, 0, none⟩)), (14, .int .i64 ((k + 1 : Nat) : Int))]) (by kernel_rfl) ?_
   refine At.keep [0] (B := [DeskC d ((⟨g, -4611686018427387903, fun j => ⟨0, 0, 0, decide (j < k)⟩⟩ : De).put k ⟨((⟨g, -4611686018427387903, fun j => ⟨0, 0, 0, decide (j < k)⟩⟩ : De).th k).who, ((⟨g, -4611686018427387903, fun j => ⟨0, 0, 0, decide (j < k)⟩⟩ : De).th k).tok, ((⟨g, -4611686018427387903, fun j => ⟨0, 0, 0, decide (j < k)⟩⟩ : De).th k).fin, true⟩)]) (D := []) rfl ?_
   have e : ((⟨g, -4611686018427387903, fun j => ⟨0, 0, 0, decide (j < k)⟩⟩ : De).put k ⟨((⟨g, -4611686018427387903, fun j => ⟨0, 0, 0, decide (j < k)⟩⟩ : De).th k).who, ((⟨g, -4611686018427387903, fun j => ⟨0, 0, 0, decide (j < k)⟩⟩ : De).th k).tok, ((⟨g, -4611686018427387903, fun j => ⟨0, 0, 0, decide (j < k)⟩⟩ : De).th k).fin, true⟩) = (⟨g, -4611686018427387903, fun j => ⟨0, 0, 0, decide (j < k + 1)⟩⟩ : De) := by unfold De.put; congr 1; funext j; by_cases h : j = k <;> simp [h] <;> omega
   rw [e]; exact ih (k + 1) (by omega) (by omega)
  ·have hx1 : (k : Int) ≥ 256 := by simpa using hx1
   refine At.cond 300 false (c := .tmp 15) (k1 := pt6_8) (k2 := pt6_9) (by kernel_rfl) (by intro u; kernel_rfl) (fun h => by cases h) (fun _ => ?_)
   refine At.pick [3] (e' := [(3, .pointer (some ⟨d, 0, none⟩))]) (by kernel_rfl) ?_
   refine At.region (ops := opt6_9) (m := 2) (k' := kt6_13) (by kernel_rfl) 300 (k'' := pt6_12) (by kernel_rfl) ?_
   refine SOps.pures 2 (i' := 2) (m' := 0) (e' := [(2, .pointer (some ⟨d, 0, none⟩)), (23, .pointer (some ⟨d, 0, none⟩)), (3, .pointer (some ⟨d, 0, none⟩))]) (by intro u; kernel_rfl) ?_
   refine SOps.nil (.inl rfl) ?_
   refine At.pick [2] (e' := [(2, .pointer (some ⟨d, 0, none⟩))]) (by kernel_rfl) ?_
   refine At.ret1 (fn := Try.f6) (v := .pointer (some ⟨d, 0, none⟩)) (t := 2) (by kernel_rfl) Try.func6 (by kernel_rfl) (by kernel_rfl) (fun F w ho => ?_)
   obtain rfl : k = 256 := by omega
   have ho2 := DeskC.same (s := ⟨g, -4611686018427387903, fun j => ⟨0, 0, 0, decide (j < 256)⟩⟩) (s' := newD g) rfl rfl (fun j hj => by simp [newD, t0, hj]) ho
   exact shutX (p := fun _ => True) d rfl trivial [0] rfl ho2
theorem newM (g : Int) (h0 : 0 ≤ g) (h1 : g ≤ 1099511627776) : Ctr Try.prog 6 #[.int .i64 g] [] (fun v' => ex fun d : Nat => fact (v' = .pointer (some ⟨d, 0, none⟩)) :: fact True :: [DeskC d (newD g)]) false := by
 refine spec_of_at (fn := Try.f6) (c := bd6) (args := [.int .i64 g]) (n := 24) (e := [(0, .int .i64 g)]) (k := pt6_0) Try.func6 (by kernel_rfl) (by kernel_rfl) (by kernel_rfl) (by kernel_rfl) 300 (by kernel_rfl) ?_
 refine At.region (ops := opt6_0) (m := 1) (k' := kt6_0) (by kernel_rfl) 300 (k'' := pt6_1) (by kernel_rfl) ?_
 refine SOps.pures 1 (i' := 1) (m' := 0) (e' := [(2, .pointer none), (0, .int .i64 g)]) (by intro u; kernel_rfl) ?_
 refine SOps.nil (.inl rfl) ?_
 refine At.pick [0] (e' := [(0, .int .i64 g)]) (by kernel_rfl) ?_
 refine At.region (ops := opt6_1) (m := 6) (k' := kt6_2) (by kernel_rfl) 300 (k'' := pt6_2) (by kernel_rfl) ?_
 refine SOps.pures 3 (i' := 3) (m' := 3) (e' := [(7, .bool (decide (g < 0))), (6, .bool (decide (g < 0))), (5, .int .i64 g), (0, .int .i64 g)]) (by intro u; kernel_rfl) ?_
 refine SOps.split (fun zq => [(7, .bool zq), (6, .bool zq), (5, .int .i64 g), (0, .int .i64 g)]) (decide (g < 0)) (fun hx1 => ?_) (fun hx1 => ?_)
 ·have hx1 : g < 0 := by simpa using hx1
  exact absurd hx1 (by omega)
 ·have hx1 : g ≥ 0 := by simpa using hx1
  refine SOps.pures 3 (i' := 6) (m' := 0) (e' := [(10, .bool (decide (g > 1099511627776))), (9, .bool (decide (g > 1099511627776))), (8, .int .i64 g), (7, .bool false), (6, .bool false), (5, .int .i64 g), (0, .int .i64 g)]) (by intro u; kernel_rfl) ?_
  refine SOps.nil (.inl rfl) ?_
  refine At.pick [0, 10] (e' := [(0, .int .i64 g), (10, .bool (decide (g > 1099511627776)))]) (by kernel_rfl) ?_
  refine At.split (fun zq => [(0, .int .i64 g), (10, .bool zq)]) (decide (g > 1099511627776)) (fun hx2 => ?_) (fun hx2 => ?_)
  ·have hx2 : g > 1099511627776 := by simpa using hx2
   exact absurd hx2 (by omega)
  ·have hx2 : g ≤ 1099511627776 := by simpa using hx2
   refine At.cond 300 false (c := .tmp 10) (k1 := pt6_3) (k2 := pt6_4) (by kernel_rfl) (by intro u; kernel_rfl) (fun h => by cases h) (fun _ => ?_)
   refine At.pick [0] (e' := [(0, .int .i64 g)]) (by kernel_rfl) ?_
   refine At.region (ops := opt6_4) (m := 4) (k' := kt6_4) (by kernel_rfl) 300 (k'' := pt6_13) (by kernel_rfl) ?_
   refine SOps.pures 1 (i' := 1) (m' := 3) (e' := [(11, .int .i64 g), (0, .int .i64 g)]) (by intro u; kernel_rfl) ?_
   refine SOps.v (Val.pe 12 (.agg (deskZ g).toArray) (.agg (deskZ g).toArray) (by intro u; kernel_rfl) rfl) ?_
   refine SOps.o (Op.new 13 51 (deskZ g) (fun b => .pointer (some ⟨b, 0, none⟩)) (by intro u b; kernel_rfl) ?_)
   intro bx3
   refine SOps.conseq1 (fun F w ho => desk_open ho) ?_
   refine SOps.pures 1 (i' := 4) (m' := 0) (e' := [(3, .pointer (some ⟨bx3, 0, none⟩)), (13, .pointer (some ⟨bx3, 0, none⟩)), (12, .agg (deskZ g).toArray), (11, .int .i64 g), (0, .int .i64 g)]) (by intro u; kernel_rfl) ?_
   refine SOps.nil (.inl rfl) ?_
   refine At.pick [3] (e' := [(3, .pointer (some ⟨bx3, 0, none⟩))]) (by kernel_rfl) ?_
   refine At.region (ops := opt6_13) (m := 1) (k' := kt6_14) (by kernel_rfl) 300 (k'' := pt6_6) (by kernel_rfl) ?_
   refine SOps.pures 1 (i' := 1) (m' := 0) (e' := [(14, .int .i64 0), (3, .pointer (some ⟨bx3, 0, none⟩))]) (by intro u; kernel_rfl) ?_
   refine SOps.nil (.inl rfl) ?_
   refine At.pick [3, 14] (e' := [(3, .pointer (some ⟨bx3, 0, none⟩)), (14, .int .i64 0)]) (by kernel_rfl) ?_
   refine At.keep [0] (B := [DeskC bx3 (⟨g, -4611686018427387903, fun j => ⟨0, 0, 0, decide (j < 0)⟩⟩)]) (D := []) rfl ?_
   exact new_loop g bx3 257 0 (by omega) (by omega)
end Go.Proofs.Le
