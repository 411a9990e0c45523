/- SignalPlays: all rounds. -/
import Derived.Test.YtncihgdaaoiaiaaSgH
import Derived.Test.YtncihgdaaoiaiaaSgY
namespace Go.Proofs.Sg
open Go Go.Sp Go.Sg
set_option linter.unusedVariables false
set_option linter.unusedSimpArgs false
set_option linter.unnecessarySimpa false
set_option maxRecDepth 100000
noncomputable def kt3_70 : List Item := .code (pick [1, 1, 1, 1, 1, 1, 0, 1, 0, 0, 1, 1, 0, 0, 1, 1, 1, 1, 1, 1, 1] bd3) :: kt3_4
noncomputable def kt3_71 : List Item := .code (pick [1, 1, 1, 1, 1, 1, 0, 1, 0, 0, 1, 1, 0, 0, 1, 1, 1, 1, 1, 1, 0, 1] bd3) :: kt3_70
noncomputable def pt3_67 : List Item := .code (pick [1, 1, 1, 1, 1, 1, 0, 1, 0, 0, 1, 1, 0, 0, 1, 1, 1, 1, 1, 1, 0, 0] bd3) :: kt3_71
noncomputable def opt3_67 : Array Oper := opsOf (pick [1, 1, 1, 1, 1, 1, 0, 1, 0, 0, 1, 1, 0, 0, 1, 1, 1, 1, 1, 1, 0, 0] bd3)
noncomputable def pt3_68 : List Item := .code (pick [1, 1, 1, 1, 1, 1, 0, 1, 0, 0, 1, 1, 0, 0, 1, 1, 1, 1, 1, 1, 0, 1] bd3) :: kt3_70
noncomputable def kt3_72 : List Item := .code (pick [1, 1, 1, 1, 1, 1, 0, 1, 0, 0, 1, 1, 0, 0, 1, 1, 1, 1, 1, 1, 0, 1, 0, 1] bd3) :: kt3_70
noncomputable def pt3_69 : List Item := .code (pick [1, 1, 1, 1, 1, 1, 0, 1, 0, 0, 1, 1, 0, 0, 1, 1, 1, 1, 1, 1, 0, 1, 0, 0] bd3) :: kt3_72
noncomputable def opt3_69 : Array Oper := opsOf (pick [1, 1, 1, 1, 1, 1, 0, 1, 0, 0, 1, 1, 0, 0, 1, 1, 1, 1, 1, 1, 0, 1, 0, 0] bd3)
noncomputable def kt3_73 : List Item := .code (pick [1, 1, 1, 1, 1, 1, 0, 1, 0, 0, 1, 1, 0, 0, 1, 1, 1, 1, 1, 1, 1, 1] bd3) :: kt3_4
noncomputable def pt3_70 : List Item := .code (pick [1, 1, 1, 1, 1, 1, 0, 1, 0, 0, 1, 1, 0, 0, 1, 1, 1, 1, 1, 1, 1, 0] bd3) :: kt3_73
noncomputable def opt3_70 : Array Oper := opsOf (pick [1, 1, 1, 1, 1, 1, 0, 1, 0, 0, 1, 1, 0, 0, 1, 1, 1, 1, 1, 1, 1, 0] bd3)
noncomputable def pt3_71 : List Item := .code (pick [1, 1, 1, 1, 1, 1, 0, 1, 0, 0, 1, 1, 0, 0, 1, 1, 1, 0, 1] bd3) :: kt3_5
noncomputable def kt3_74 : List Item := .code (pick [1, 1, 1, 1, 1, 1, 0, 1, 0, 0, 1, 1, 0, 0, 1, 1, 1, 0, 1, 0, 1] bd3) :: kt3_5
noncomputable def pt3_72 : List Item := .code (pick [1, 1, 1, 1, 1, 1, 0, 1, 0, 0, 1, 1, 0, 0, 1, 1, 1, 0, 1, 0, 0] bd3) :: kt3_74
noncomputable def opt3_72 : Array Oper := opsOf (pick [1, 1, 1, 1, 1, 1, 0, 1, 0, 0, 1, 1, 0, 0, 1, 1, 1, 0, 1, 0, 0] bd3)
noncomputable def kt3_75 : List Item := .code (pick [1, 1, 1, 1, 1, 1, 0, 1, 0, 0, 1, 1, 0, 0, 1, 1, 1, 1, 0, 1] bd3) :: kt3_15
noncomputable def pt3_73 : List Item := .code (pick [1, 1, 1, 1, 1, 1, 0, 1, 0, 0, 1, 1, 0, 0, 1, 1, 1, 1, 0, 0] bd3) :: kt3_75
noncomputable def opt3_73 : Array Oper := opsOf (pick [1, 1, 1, 1, 1, 1, 0, 1, 0, 0, 1, 1, 0, 0, 1, 1, 1, 1, 0, 0] bd3)
noncomputable def kt3_76 : List Item := .code (pick [1, 1, 1, 1, 1, 1, 0, 1, 0, 0, 1, 1, 0, 0, 1, 1, 1, 1, 0, 1, 0, 1] bd3) :: kt3_16
noncomputable def pt3_74 : List Item := .code (pick [1, 1, 1, 1, 1, 1, 0, 1, 0, 0, 1, 1, 0, 0, 1, 1, 1, 1, 0, 1, 0, 0] bd3) :: kt3_76
noncomputable def opt3_74 : Array Oper := opsOf (pick [1, 1, 1, 1, 1, 1, 0, 1, 0, 0, 1, 1, 0, 0, 1, 1, 1, 1, 0, 1, 0, 0] bd3)
noncomputable def pt3_75 : List Item := .code (pick [1, 1, 1, 1, 1, 1, 0, 1, 0, 0, 1, 1, 0, 0, 1, 1, 1, 1, 0, 1, 0, 1] bd3) :: kt3_16
noncomputable def kt3_77 : List Item := .code (pick [1, 1, 1, 1, 1, 1, 0, 1, 0, 0, 1, 1, 0, 0, 1, 1, 1, 1, 0, 1, 0, 1, 0, 1] bd3) :: kt3_16
noncomputable def pt3_76 : List Item := .code (pick [1, 1, 1, 1, 1, 1, 0, 1, 0, 0, 1, 1, 0, 0, 1, 1, 1, 1, 0, 1, 0, 1, 0, 0] bd3) :: kt3_77
noncomputable def opt3_76 : Array Oper := opsOf (pick [1, 1, 1, 1, 1, 1, 0, 1, 0, 0, 1, 1, 0, 0, 1, 1, 1, 1, 0, 1, 0, 1, 0, 0] bd3)
noncomputable def kt3_78 : List Item := .code (pick [1, 1, 1, 1, 1, 1, 0, 1, 0, 0, 1, 1, 0, 0, 1, 1, 1, 1, 0, 1, 0, 1, 1, 1] bd3) :: kt3_16
noncomputable def pt3_77 : List Item := .code (pick [1, 1, 1, 1, 1, 1, 0, 1, 0, 0, 1, 1, 0, 0, 1, 1, 1, 1, 0, 1, 0, 1, 1, 0] bd3) :: kt3_78
noncomputable def opt3_77 : Array Oper := opsOf (pick [1, 1, 1, 1, 1, 1, 0, 1, 0, 0, 1, 1, 0, 0, 1, 1, 1, 1, 0, 1, 0, 1, 1, 0] bd3)
noncomputable def kt3_79 : List Item := .code (pick [1, 1, 1, 1, 1, 1, 0, 1, 0, 0, 1, 1, 0, 0, 1, 1, 1, 1, 0, 1, 0, 1, 0, 1, 0, 1] bd3) :: kt3_18
noncomputable def pt3_78 : List Item := .code (pick [1, 1, 1, 1, 1, 1, 0, 1, 0, 0, 1, 1, 0, 0, 1, 1, 1, 1, 0, 1, 0, 1, 0, 1, 0, 0] bd3) :: kt3_79
noncomputable def opt3_78 : Array Oper := opsOf (pick [1, 1, 1, 1, 1, 1, 0, 1, 0, 0, 1, 1, 0, 0, 1, 1, 1, 1, 0, 1, 0, 1, 0, 1, 0, 0] bd3)
noncomputable def pt3_79 : List Item := .code (pick [1, 1, 1, 1, 1, 1, 0, 1, 0, 0, 1, 1, 0, 0, 1, 1, 1, 1, 0, 1, 0, 1, 1, 1] bd3) :: kt3_16
noncomputable def kt3_80 : List Item := .code (pick [1, 1, 1, 1, 1, 1, 0, 1, 0, 0, 1, 1, 0, 0, 1, 1, 1, 1, 0, 1, 0, 1, 1, 1, 1, 1] bd3) :: kt3_16
noncomputable def pt3_80 : List Item := .code (pick [1, 1, 1, 1, 1, 1, 0, 1, 0, 0, 1, 1, 0, 0, 1, 1, 1, 1, 0, 1, 0, 1, 1, 1, 1, 0] bd3) :: kt3_80
noncomputable def opt3_80 : Array Oper := opsOf (pick [1, 1, 1, 1, 1, 1, 0, 1, 0, 0, 1, 1, 0, 0, 1, 1, 1, 1, 0, 1, 0, 1, 1, 1, 1, 0] bd3)
noncomputable def pt3_81 : List Item := .code (pick [1, 1, 1, 1, 1, 1, 0, 1, 0, 0, 1, 1, 0, 0, 1, 1, 1, 1, 0, 1, 0, 1, 1, 1, 1, 1] bd3) :: kt3_16
noncomputable def kt3_81 : List Item := .code (pick [1, 1, 1, 1, 1, 1, 0, 1, 0, 0, 1, 1, 0, 0, 1, 1, 1, 1, 0, 1, 0, 1, 1, 1, 1, 1, 1, 1] bd3) :: kt3_16
noncomputable def pt3_82 : List Item := .code (pick [1, 1, 1, 1, 1, 1, 0, 1, 0, 0, 1, 1, 0, 0, 1, 1, 1, 1, 0, 1, 0, 1, 1, 1, 1, 1, 1, 0] bd3) :: kt3_81
noncomputable def opt3_82 : Array Oper := opsOf (pick [1, 1, 1, 1, 1, 1, 0, 1, 0, 0, 1, 1, 0, 0, 1, 1, 1, 1, 0, 1, 0, 1, 1, 1, 1, 1, 1, 0] bd3)
noncomputable def pt3_83 : List Item := .code (pick [1, 1, 1, 1, 1, 1, 0, 1, 0, 0, 1, 1, 0, 0, 1, 1, 1, 1, 0, 1, 0, 1, 1, 1, 1, 1, 1, 1] bd3) :: kt3_16
noncomputable def kt3_82 : List Item := .code (pick [1, 1, 1, 1, 1, 1, 0, 1, 0, 0, 1] bd3) :: kt3_2
noncomputable def pt3_84 : List Item := .code (pick [1, 1, 1, 1, 1, 1, 0, 1, 0, 0, 0] bd3) :: kt3_82
noncomputable def opt3_84 : Array Oper := opsOf (pick [1, 1, 1, 1, 1, 1, 0, 1, 0, 0, 0] bd3)
noncomputable def kt3_83 : List Item := .code (pick [1, 1, 1, 1, 1, 1, 0, 1, 0, 0, 1, 1] bd3) :: kt3_2
noncomputable def pt3_85 : List Item := .code (pick [1, 1, 1, 1, 1, 1, 0, 1, 0, 0, 1, 0] bd3) :: kt3_83
noncomputable def kt3_84 : List Item := .code (pick [1, 1, 1, 1, 1, 1, 0, 1, 0, 0, 1, 1, 0, 0, 1] bd3) :: kt3_4
noncomputable def pt3_86 : List Item := .code (pick [1, 1, 1, 1, 1, 1, 0, 1, 0, 0, 1, 1, 0, 0, 0] bd3) :: kt3_84
noncomputable def opt3_86 : Array Oper := opsOf (pick [1, 1, 1, 1, 1, 1, 0, 1, 0, 0, 1, 1, 0, 0, 0] bd3)
noncomputable def kt3_85 : List Item := .code (pick [1, 1, 1, 1, 1, 1, 1, 1] bd3) :: []
noncomputable def pt3_87 : List Item := .code (pick [1, 1, 1, 1, 1, 1, 1, 0] bd3) :: kt3_85
noncomputable def opt3_87 : Array Oper := opsOf (pick [1, 1, 1, 1, 1, 1, 1, 0] bd3)
noncomputable def kt3_86 : List Item := .code (pick [1, 1, 1, 1, 1, 1, 0, 1, 0, 0, 1, 1, 0, 0, 1, 1] bd3) :: kt3_4
noncomputable def pt3_88 : List Item := .code (pick [1, 1, 1, 1, 1, 1, 0, 1, 0, 0, 1, 1, 0, 0, 1, 0] bd3) :: kt3_86
noncomputable def opt3_88 : Array Oper := opsOf (pick [1, 1, 1, 1, 1, 1, 0, 1, 0, 0, 1, 1, 0, 0, 1, 0] bd3)
noncomputable def kt3_87 : List Item := .code (pick [1, 1, 1, 1, 1, 1, 0, 1, 0, 0, 1, 1, 0, 0, 1, 1, 0, 1] bd3) :: kt3_7
noncomputable def pt3_89 : List Item := .code (pick [1, 1, 1, 1, 1, 1, 0, 1, 0, 0, 1, 1, 0, 0, 1, 1, 0, 0] bd3) :: kt3_87
noncomputable def opt3_89 : Array Oper := opsOf (pick [1, 1, 1, 1, 1, 1, 0, 1, 0, 0, 1, 1, 0, 0, 1, 1, 0, 0] bd3)
noncomputable def pt3_90 : List Item := .code (pick [1, 1, 1, 1, 1, 1, 1, 1] bd3) :: []
noncomputable def kt3_88 : List Item := .code (pick [1] bd3) :: []
noncomputable def pt3_91 : List Item := .code (pick [0] bd3) :: kt3_88
noncomputable def opt3_91 : Array Oper := opsOf (pick [0] bd3)
noncomputable def kt3_89 : List Item := .code (pick [1, 1] bd3) :: []
noncomputable def kt3_90 : List Item := .code (pick [1, 0, 1] bd3) :: kt3_89
noncomputable def pt3_92 : List Item := .code (pick [1, 0, 0] bd3) :: kt3_90
noncomputable def opt3_92 : Array Oper := opsOf (pick [1, 0, 0] bd3)
noncomputable def pt3_93 : List Item := .code (pick [1, 0, 1] bd3) :: kt3_89
noncomputable def kt3_91 : List Item := .code (pick [1, 0, 1, 0, 1] bd3) :: kt3_89
noncomputable def pt3_94 : List Item := .code (pick [1, 0, 1, 0, 0] bd3) :: kt3_91
noncomputable def opt3_94 : Array Oper := opsOf (pick [1, 0, 1, 0, 0] bd3)
noncomputable def kt3_92 : List Item := .code (pick [1, 1, 1] bd3) :: []
noncomputable def kt3_93 : List Item := .code (pick [1, 1, 0, 1] bd3) :: kt3_92
noncomputable def pt3_95 : List Item := .code (pick [1, 1, 0, 0] bd3) :: kt3_93
noncomputable def opt3_95 : Array Oper := opsOf (pick [1, 1, 0, 0] bd3)
noncomputable def pt3_96 : List Item := .code (pick [1, 1, 0, 1] bd3) :: kt3_92
noncomputable def kt3_94 : List Item := .code (pick [1, 1, 0, 1, 0, 1] bd3) :: kt3_92
noncomputable def pt3_97 : List Item := .code (pick [1, 1, 0, 1, 0, 0] bd3) :: kt3_94
noncomputable def opt3_97 : Array Oper := opsOf (pick [1, 1, 0, 1, 0, 0] bd3)
noncomputable def kt3_95 : List Item := .code (pick [1, 1, 1, 1] bd3) :: []
noncomputable def pt3_98 : List Item := .code (pick [1, 1, 1, 0] bd3) :: kt3_95
noncomputable def opt3_98 : Array Oper := opsOf (pick [1, 1, 1, 0] bd3)
noncomputable def pt3_99 : List Item := .code (pick [1, 1, 0, 1, 0, 1] bd3) :: kt3_92
noncomputable def kt3_96 : List Item := .code (pick [1, 1, 1, 1, 1] bd3) :: []
noncomputable def pt3_100 : List Item := .code (pick [1, 1, 1, 1, 0] bd3) :: kt3_96
noncomputable def opt3_100 : Array Oper := opsOf (pick [1, 1, 1, 1, 0] bd3)
noncomputable def kt3_97 : List Item := .code (pick [1, 1, 1, 1, 1, 1] bd3) :: []
noncomputable def pt3_101 : List Item := .code (pick [1, 1, 1, 1, 1, 0] bd3) :: kt3_97
noncomputable def opt3_101 : Array Oper := opsOf (pick [1, 1, 1, 1, 1, 0] bd3)
noncomputable def kt3_98 : List Item := .code (pick [1, 1, 1, 1, 1, 1, 0, 1] bd3) :: kt3_0
noncomputable def pt3_102 : List Item := .code (pick [1, 1, 1, 1, 1, 1, 0, 0] bd3) :: kt3_98
noncomputable def opt3_102 : Array Oper := opsOf (pick [1, 1, 1, 1, 1, 1, 0, 0] bd3)
theorem law_tail (B : Asn) (A : Option Addr) (l : List Doing) (N c1 : Nat) (hl : l.length = N) (hB : InB B A (l.flatMap encC)) (hA : 0 < N → A = some ⟨blk A, ofs A, none⟩) (hN : N ≤ 120) (hu : ∀ i, i < N → 0 ≤ (l.getD i c0).kind) (q mk n cap k : Nat) (S : Option Addr) (r : List Sig) (bv : BitVec 64) (g : Int → Option Bool) (hr : r.length = n) (hf : FineG r) (hk : k < N) (hK : At ⟨Try.prog, 3, (fun v' => star (fact (v' = .bool true) :: [B])), 268, false⟩ pt3_23 [(3, .pointer (some ⟨q, 0, none⟩)), (4, .slice S n cap), (5, .map (some mk)), (30, .slice A N c1), (31, .int .i64 (N : Int)), (32, .int .i64 (k : Int))] [Grow S cap 31 3 n (r.flatMap encG), QuC q r bv, MapI mk (mb g), B]) : At ⟨Try.prog, 3, (fun v' => star (fact (v' = .bool true) :: [B])), 268, false⟩ pt3_31 [(3, .pointer (some ⟨q, 0, none⟩)), (4, .slice S n cap), (5, .map (some mk)), (30, .slice A N c1), (31, .int .i64 (N : Int)), (32, .int .i64 (k : Int))] [Grow S cap 31 3 n (r.flatMap encG), QuC q r bv, MapI mk (mb g), B] := by
 have hlen := hf.len
 have hg := hf.good
 refine At.region (ops := opt3_31) (m := 3) (k' := kt3_47) (by kernel_rfl) 300 (k'' := pt3_67) (by kernel_rfl) ?_
 refine SOps.pures 1 (i' := 1) (m' := 2) (e' := [(245, .pointer (some ⟨q, 0, none⟩)), (3, .pointer (some ⟨q, 0, none⟩)), (4, .slice S n cap), (5, .map (some mk)), (30, .slice A N c1), (31, .int .i64 (N : Int)), (32, .int .i64 (k : Int))]) (by intro u; kernel_rfl) ?_
 have hc := waitingM q r bv hg
 rw [hr] at hc
 refine SOps.o (Op.callX 246 11 #[.pointer (some ⟨q, 0, none⟩)] _ _ [1] (B := [QuC q r bv]) (D := [Grow S cap 31 3 n (r.flatMap encG), MapI mk (mb g), B]) (by intro u; kernel_rfl) (hc) (by first | exact .inr rfl | exact .inl rfl) (by kernel_rfl) ?_)
 rintro ⟨Sx1, cx2⟩ -
 refine SOps.pures 1 (i' := 3) (m' := 0) (e' := [(21, .slice Sx1 n cx2), (246, .slice Sx1 n cx2), (245, .pointer (some ⟨q, 0, none⟩)), (3, .pointer (some ⟨q, 0, none⟩)), (4, .slice S n cap), (5, .map (some mk)), (30, .slice A N c1), (31, .int .i64 (N : Int)), (32, .int .i64 (k : Int))]) (by intro u; kernel_rfl) ?_
 refine SOps.nil (.inl rfl) ?_
 refine At.pick [3, 4, 5, 21, 30, 31, 32] (e' := [(3, .pointer (some ⟨q, 0, none⟩)), (4, .slice S n cap), (5, .map (some mk)), (21, .slice Sx1 n cx2), (30, .slice A N c1), (31, .int .i64 (N : Int)), (32, .int .i64 (k : Int))]) (by kernel_rfl) ?_
 refine At.region (ops := opt3_67) (m := 5) (k' := kt3_71) (by kernel_rfl) 300 (k'' := pt3_68) (by kernel_rfl) ?_
 refine SOps.pures 5 (i' := 5) (m' := 0) (e' := [(251, .bool ((n : Int) != (n : Int))), (250, .int .i64 (n : Int)), (249, .slice S n cap), (248, .int .i64 (n : Int)), (247, .slice Sx1 n cx2), (3, .pointer (some ⟨q, 0, none⟩)), (4, .slice S n cap), (5, .map (some mk)), (21, .slice Sx1 n cx2), (30, .slice A N c1), (31, .int .i64 (N : Int)), (32, .int .i64 (k : Int))]) (by intro u; kernel_rfl) ?_
 refine SOps.nil (.inl rfl) ?_
 refine At.pick [3, 4, 5, 21, 30, 31, 32, 251] (e' := [(3, .pointer (some ⟨q, 0, none⟩)), (4, .slice S n cap), (5, .map (some mk)), (21, .slice Sx1 n cx2), (30, .slice A N c1), (31, .int .i64 (N : Int)), (32, .int .i64 (k : Int)), (251, .bool ((n : Int) != (n : Int)))]) (by kernel_rfl) ?_
 refine At.split (fun zq => [(3, .pointer (some ⟨q, 0, none⟩)), (4, .slice S n cap), (5, .map (some mk)), (21, .slice Sx1 n cx2), (30, .slice A N c1), (31, .int .i64 (N : Int)), (32, .int .i64 (k : Int)), (251, .bool zq)]) (((n : Int) != (n : Int))) (fun hx3 => ?_) (fun hx3 => ?_)
 ·have hx3 : (n : Int) ≠ (n : Int) := by simpa using hx3
  exact absurd hx3 (by omega)
 ·have hx3 : (n : Int) = (n : Int) := by simpa using hx3
  refine At.cond 300 false (c := .tmp 251) (k1 := pt3_69) (k2 := pt3_70) (by kernel_rfl) (by intro u; kernel_rfl) (fun h => by cases h) (fun _ => ?_)
  refine At.pick [3, 4, 5, 21, 30, 31, 32] (e' := [(3, .pointer (some ⟨q, 0, none⟩)), (4, .slice S n cap), (5, .map (some mk)), (21, .slice Sx1 n cx2), (30, .slice A N c1), (31, .int .i64 (N : Int)), (32, .int .i64 (k : Int))]) (by kernel_rfl) ?_
  refine At.region (ops := opt3_70) (m := 3) (k' := kt3_73) (by kernel_rfl) 300 (k'' := pt3_24) (by kernel_rfl) ?_
  refine SOps.pures 3 (i' := 3) (m' := 0) (e' := [(254, .int .i64 0), (253, .int .i64 (n : Int)), (252, .slice Sx1 n cx2), (3, .pointer (some ⟨q, 0, none⟩)), (4, .slice S n cap), (5, .map (some mk)), (21, .slice Sx1 n cx2), (30, .slice A N c1), (31, .int .i64 (N : Int)), (32, .int .i64 (k : Int))]) (by intro u; kernel_rfl) ?_
  refine SOps.nil (.inl rfl) ?_
  refine At.pick [3, 4, 5, 21, 30, 31, 32, 253, 254] (e' := [(3, .pointer (some ⟨q, 0, none⟩)), (4, .slice S n cap), (5, .map (some mk)), (21, .slice Sx1 n cx2), (30, .slice A N c1), (31, .int .i64 (N : Int)), (32, .int .i64 (k : Int)), (253, .int .i64 (n : Int)), (254, .int .i64 0)]) (by kernel_rfl) ?_
  refine At.keep [0, 1, 0, 0, 0] (B := [Grow Sx1 cx2 31 3 n (r.flatMap encG), Grow S cap 31 3 n (r.flatMap encG), QuC q r bv, MapI mk (mb g), B]) (D := []) rfl ?_
  exact law_same B A l N c1 hl hB hA hN hu q 0 mk n cap k S r bv g hr hf hk cx2 Sx1 hK (n + 1) 0 (by omega) (by omega)
theorem law_round (B : Asn) (A : Option Addr) (l : List Doing) (N c1 : Nat) (hl : l.length = N) (hB : InB B A (l.flatMap encC)) (hA : 0 < N → A = some ⟨blk A, ofs A, none⟩) (hN : N ≤ 120) (hu : ∀ i, i < N → 0 ≤ (l.getD i c0).kind) (q ba mk n cap k : Nat) (S : Option Addr) (r : List Sig) (bv : BitVec 64) (g : Int → Option Bool) (hr : r.length = n) (hf : FineG r) (hk : k < N) (hb : Bl bv g) (f : Int) (hff : f = idxI (openI r bv)) (hK : ∀ (S : Option Addr) (cap n : Nat) (r : List Sig) (bv : BitVec 64) (g : Int → Option Bool), r.length = n → FineG r → Bl bv g → At ⟨Try.prog, 3, (fun v' => star (fact (v' = .bool true) :: [B])), 268, false⟩ pt3_31 [(3, .pointer (some ⟨q, 0, none⟩)), (4, .slice S n cap), (5, .map (some mk)), (30, .slice A N c1), (31, .int .i64 (N : Int)), (32, .int .i64 (k : Int))] [Grow S cap 31 3 n (r.flatMap encG), QuC q r bv, MapI mk (mb g), B]) : At ⟨Try.prog, 3, (fun v' => star (fact (v' = .bool true) :: [B])), 268, false⟩ pt3_0 [(3, .pointer (some ⟨q, 0, none⟩)), (4, .slice S n cap), (5, .map (some mk)), (7, .pointer (some ⟨ba, 0, none⟩)), (8, .int .i64 f), (30, .slice A N c1), (31, .int .i64 (N : Int)), (32, .int .i64 (k : Int))] [Cells ba 29 [.int .u8 ((l.getD k c0).kind), .int .i64 ((l.getD k c0).no), .int .i64 ((l.getD k c0).timer), .int .i64 ((l.getD k c0).over), .bool ((l.getD k c0).yes)], Grow S cap 31 3 n (r.flatMap encG), QuC q r bv, MapI mk (mb g), B] := by
 have hlen := hf.len
 have hg := hf.good
 refine At.region (ops := opt3_0) (m := 5) (k' := kt3_6) (by kernel_rfl) 300 (k'' := pt3_71) (by kernel_rfl) ?_
 refine SOps.pures 1 (i' := 1) (m' := 4) (e' := [(52, .pointer (some ⟨q, 0, none⟩)), (3, .pointer (some ⟨q, 0, none⟩)), (4, .slice S n cap), (5, .map (some mk)), (7, .pointer (some ⟨ba, 0, none⟩)), (8, .int .i64 f), (30, .slice A N c1), (31, .int .i64 (N : Int)), (32, .int .i64 (k : Int))]) (by intro u; kernel_rfl) ?_
 refine SOps.o (Op.callS 53 6 #[.pointer (some ⟨q, 0, none⟩)] (.bool ((openI r bv).isSome)) [2] (B := [QuC q r bv]) (D := [Cells ba 29 [.int .u8 ((l.getD k c0).kind), .int .i64 ((l.getD k c0).no), .int .i64 ((l.getD k c0).timer), .int .i64 ((l.getD k c0).over), .bool ((l.getD k c0).yes)], Grow S cap 31 3 n (r.flatMap encG), MapI mk (mb g), B]) (by intro u; kernel_rfl) (readyM q r bv hg) (by first | exact .inr rfl | exact .inl rfl) (by kernel_rfl) ?_)
 refine SOps.pures 1 (i' := 3) (m' := 2) (e' := [(54, .int .i64 f), (53, .bool ((openI r bv).isSome)), (52, .pointer (some ⟨q, 0, none⟩)), (3, .pointer (some ⟨q, 0, none⟩)), (4, .slice S n cap), (5, .map (some mk)), (7, .pointer (some ⟨ba, 0, none⟩)), (8, .int .i64 f), (30, .slice A N c1), (31, .int .i64 (N : Int)), (32, .int .i64 (k : Int))]) (by intro u; kernel_rfl) ?_
 refine SOps.v (Val.pe 55 (.bool (decide (f ≥ 0))) (.bool (openI r bv).isSome) (by intro u; kernel_rfl) (congrArg Value.bool (by rw [hff]; exact idx_ge _))) ?_
 refine SOps.v (Val.pe 56 (.bool ((openI r bv).isSome != (openI r bv).isSome)) (.bool false) (by intro u; kernel_rfl) (congrArg Value.bool (bne_self_eq_false _))) ?_
 refine SOps.nil (.inl rfl) ?_
 refine At.pick [3, 4, 5, 7, 8, 30, 31, 32, 56] (e' := [(3, .pointer (some ⟨q, 0, none⟩)), (4, .slice S n cap), (5, .map (some mk)), (7, .pointer (some ⟨ba, 0, none⟩)), (8, .int .i64 f), (30, .slice A N c1), (31, .int .i64 (N : Int)), (32, .int .i64 (k : Int)), (56, .bool false)]) (by kernel_rfl) ?_
 refine At.cond 300 false (c := .tmp 56) (k1 := pt3_72) (k2 := pt3_73) (by kernel_rfl) (by intro u; kernel_rfl) (fun h => by cases h) (fun _ => ?_)
 refine At.pick [3, 4, 5, 7, 8, 30, 31, 32] (e' := [(3, .pointer (some ⟨q, 0, none⟩)), (4, .slice S n cap), (5, .map (some mk)), (7, .pointer (some ⟨ba, 0, none⟩)), (8, .int .i64 f), (30, .slice A N c1), (31, .int .i64 (N : Int)), (32, .int .i64 (k : Int))]) (by kernel_rfl) ?_
 have hk0 := hu k hk
 refine At.region (ops := opt3_73) (m := 3) (k' := kt3_75) (by kernel_rfl) 300 (k'' := pt3_74) (by kernel_rfl) ?_
 refine SOps.pures 1 (i' := 1) (m' := 2) (e' := [(57, .pointer (some ⟨ba, 0, none⟩)), (3, .pointer (some ⟨q, 0, none⟩)), (4, .slice S n cap), (5, .map (some mk)), (7, .pointer (some ⟨ba, 0, none⟩)), (8, .int .i64 f), (30, .slice A N c1), (31, .int .i64 (N : Int)), (32, .int .i64 (k : Int))]) (by intro u; kernel_rfl) ?_
 refine SOps.v (Val.ld1 1 58 5 ba 0 (.int .u8 ((l.getD k c0).kind)) rfl (by intro u; kernel_rfl) (by kernel_rfl) (Rd.cells rfl)) ?_
 refine SOps.v (Val.pv 59 (vN (Op.intDiv .rem .u8 ((l.getD k c0).kind) 4)) (.int .u8 (((l.getD k c0).kind) % 4)) (by intro u; kernel_rfl) (pv_rem (by omega) (by omega))) ?_
 refine SOps.nil (.inl rfl) ?_
 refine At.pick [3, 4, 5, 7, 8, 30, 31, 32, 59] (e' := [(3, .pointer (some ⟨q, 0, none⟩)), (4, .slice S n cap), (5, .map (some mk)), (7, .pointer (some ⟨ba, 0, none⟩)), (8, .int .i64 f), (30, .slice A N c1), (31, .int .i64 (N : Int)), (32, .int .i64 (k : Int)), (59, .int .u8 (((l.getD k c0).kind) % 4))]) (by kernel_rfl) ?_
 refine At.region (ops := opt3_74) (m := 2) (k' := kt3_76) (by kernel_rfl) 300 (k'' := pt3_75) (by kernel_rfl) ?_
 refine SOps.pures 2 (i' := 2) (m' := 0) (e' := [(60, .bool ((((l.getD k c0).kind) % 4) == 0)), (61, .bool ((((l.getD k c0).kind) % 4) == 0)), (3, .pointer (some ⟨q, 0, none⟩)), (4, .slice S n cap), (5, .map (some mk)), (7, .pointer (some ⟨ba, 0, none⟩)), (8, .int .i64 f), (30, .slice A N c1), (31, .int .i64 (N : Int)), (32, .int .i64 (k : Int)), (59, .int .u8 (((l.getD k c0).kind) % 4))]) (by intro u; kernel_rfl) ?_
 refine SOps.nil (.inl rfl) ?_
 refine At.pick [3, 4, 5, 7, 8, 30, 31, 32, 59, 60] (e' := [(3, .pointer (some ⟨q, 0, none⟩)), (4, .slice S n cap), (5, .map (some mk)), (7, .pointer (some ⟨ba, 0, none⟩)), (8, .int .i64 f), (30, .slice A N c1), (31, .int .i64 (N : Int)), (32, .int .i64 (k : Int)), (59, .int .u8 (((l.getD k c0).kind) % 4)), (60, .bool ((((l.getD k c0).kind) % 4) == 0))]) (by kernel_rfl) ?_
 refine At.split (fun zq => [(3, .pointer (some ⟨q, 0, none⟩)), (4, .slice S n cap), (5, .map (some mk)), (7, .pointer (some ⟨ba, 0, none⟩)), (8, .int .i64 f), (30, .slice A N c1), (31, .int .i64 (N : Int)), (32, .int .i64 (k : Int)), (59, .int .u8 (((l.getD k c0).kind) % 4)), (60, .bool zq)]) (((((l.getD k c0).kind) % 4) == 0)) (fun hx1 => ?_) (fun hx1 => ?_)
 ·have hx1 : (((l.getD k c0).kind) % 4) = 0 := by simpa using hx1
  refine At.cond 300 true (c := .tmp 60) (k1 := pt3_76) (k2 := pt3_77) (by kernel_rfl) (by intro u; kernel_rfl) (fun _ => ?_) (fun h => by cases h)
  refine At.pick [3, 4, 5, 7, 30, 31, 32] (e' := [(3, .pointer (some ⟨q, 0, none⟩)), (4, .slice S n cap), (5, .map (some mk)), (7, .pointer (some ⟨ba, 0, none⟩)), (30, .slice A N c1), (31, .int .i64 (N : Int)), (32, .int .i64 (k : Int))]) (by kernel_rfl) ?_
  refine At.region (ops := opt3_76) (m := 1) (k' := kt3_77) (by kernel_rfl) 300 (k'' := pt3_78) (by kernel_rfl) ?_
  refine SOps.pures 1 (i' := 1) (m' := 0) (e' := [(10, .int .i64 (-1)), (3, .pointer (some ⟨q, 0, none⟩)), (4, .slice S n cap), (5, .map (some mk)), (7, .pointer (some ⟨ba, 0, none⟩)), (30, .slice A N c1), (31, .int .i64 (N : Int)), (32, .int .i64 (k : Int))]) (by intro u; kernel_rfl) ?_
  refine SOps.nil (.inl rfl) ?_
  refine At.pick [3, 4, 5, 7, 10, 30, 31, 32] (e' := [(3, .pointer (some ⟨q, 0, none⟩)), (4, .slice S n cap), (5, .map (some mk)), (7, .pointer (some ⟨ba, 0, none⟩)), (10, .int .i64 (-1)), (30, .slice A N c1), (31, .int .i64 (N : Int)), (32, .int .i64 (k : Int))]) (by kernel_rfl) ?_
  refine At.region (ops := opt3_78) (m := 3) (k' := kt3_79) (by kernel_rfl) 300 (k'' := pt3_8) (by kernel_rfl) ?_
  refine SOps.pures 3 (i' := 3) (m' := 0) (e' := [(64, .int .i64 0), (63, .int .i64 (n : Int)), (62, .slice S n cap), (3, .pointer (some ⟨q, 0, none⟩)), (4, .slice S n cap), (5, .map (some mk)), (7, .pointer (some ⟨ba, 0, none⟩)), (10, .int .i64 (-1)), (30, .slice A N c1), (31, .int .i64 (N : Int)), (32, .int .i64 (k : Int))]) (by intro u; kernel_rfl) ?_
  refine SOps.nil (.inl rfl) ?_
  refine At.pick [3, 4, 5, 7, 10, 30, 31, 32, 62, 63, 64] (e' := [(3, .pointer (some ⟨q, 0, none⟩)), (4, .slice S n cap), (5, .map (some mk)), (7, .pointer (some ⟨ba, 0, none⟩)), (10, .int .i64 (-1)), (30, .slice A N c1), (31, .int .i64 (N : Int)), (32, .int .i64 (k : Int)), (62, .slice S n cap), (63, .int .i64 (n : Int)), (64, .int .i64 0)]) (by kernel_rfl) ?_
  refine At.keep [1, 1, 0, 0, 0] (B := [Cells ba 29 [.int .u8 ((l.getD k c0).kind), .int .i64 ((l.getD k c0).no), .int .i64 ((l.getD k c0).timer), .int .i64 ((l.getD k c0).over), .bool ((l.getD k c0).yes)], Grow S cap 31 3 n (r.flatMap encG), QuC q r bv, MapI mk (mb g), B]) (D := []) rfl ?_
  exact law_at B A l N c1 hl hB hA hN hu q ba mk n cap k S r bv g hr hf hk f (fun at1 hat => law_kind0 B A l N c1 hl hB hA hN hu q ba mk n cap k S r bv g hr hf hk hb f at1 hat hK) (n + 1) 0 (-1) (by omega) (by omega) (.inl ⟨rfl, fun q h => by omega⟩)
 ·have hx1 : (((l.getD k c0).kind) % 4) ≠ 0 := by simpa using hx1
  refine At.cond 300 false (c := .tmp 60) (k1 := pt3_76) (k2 := pt3_77) (by kernel_rfl) (by intro u; kernel_rfl) (fun h => by cases h) (fun _ => ?_)
  refine At.pick [3, 4, 5, 7, 8, 30, 31, 32, 59] (e' := [(3, .pointer (some ⟨q, 0, none⟩)), (4, .slice S n cap), (5, .map (some mk)), (7, .pointer (some ⟨ba, 0, none⟩)), (8, .int .i64 f), (30, .slice A N c1), (31, .int .i64 (N : Int)), (32, .int .i64 (k : Int)), (59, .int .u8 (((l.getD k c0).kind) % 4))]) (by kernel_rfl) ?_
  refine At.region (ops := opt3_77) (m := 2) (k' := kt3_78) (by kernel_rfl) 300 (k'' := pt3_79) (by kernel_rfl) ?_
  refine SOps.pures 2 (i' := 2) (m' := 0) (e' := [(153, .bool ((((l.getD k c0).kind) % 4) == 1)), (154, .bool ((((l.getD k c0).kind) % 4) == 1)), (3, .pointer (some ⟨q, 0, none⟩)), (4, .slice S n cap), (5, .map (some mk)), (7, .pointer (some ⟨ba, 0, none⟩)), (8, .int .i64 f), (30, .slice A N c1), (31, .int .i64 (N : Int)), (32, .int .i64 (k : Int)), (59, .int .u8 (((l.getD k c0).kind) % 4))]) (by intro u; kernel_rfl) ?_
  refine SOps.nil (.inl rfl) ?_
  refine At.pick [3, 4, 5, 7, 8, 30, 31, 32, 59, 153] (e' := [(3, .pointer (some ⟨q, 0, none⟩)), (4, .slice S n cap), (5, .map (some mk)), (7, .pointer (some ⟨ba, 0, none⟩)), (8, .int .i64 f), (30, .slice A N c1), (31, .int .i64 (N : Int)), (32, .int .i64 (k : Int)), (59, .int .u8 (((l.getD k c0).kind) % 4)), (153, .bool ((((l.getD k c0).kind) % 4) == 1))]) (by kernel_rfl) ?_
  refine At.split (fun zq => [(3, .pointer (some ⟨q, 0, none⟩)), (4, .slice S n cap), (5, .map (some mk)), (7, .pointer (some ⟨ba, 0, none⟩)), (8, .int .i64 f), (30, .slice A N c1), (31, .int .i64 (N : Int)), (32, .int .i64 (k : Int)), (59, .int .u8 (((l.getD k c0).kind) % 4)), (153, .bool zq)]) (((((l.getD k c0).kind) % 4) == 1)) (fun hx2 => ?_) (fun hx2 => ?_)
  ·have hx2 : (((l.getD k c0).kind) % 4) = 1 := by simpa using hx2
   refine At.cond 300 true (c := .tmp 153) (k1 := pt3_48) (k2 := pt3_80) (by kernel_rfl) (by intro u; kernel_rfl) (fun _ => ?_) (fun h => by cases h)
   refine At.pick [3, 4, 5, 8, 30, 31, 32] (e' := [(3, .pointer (some ⟨q, 0, none⟩)), (4, .slice S n cap), (5, .map (some mk)), (8, .int .i64 f), (30, .slice A N c1), (31, .int .i64 (N : Int)), (32, .int .i64 (k : Int))]) (by kernel_rfl) ?_
   refine At.keep [1, 1, 0, 0, 0] (B := [Cells ba 29 [.int .u8 ((l.getD k c0).kind), .int .i64 ((l.getD k c0).no), .int .i64 ((l.getD k c0).timer), .int .i64 ((l.getD k c0).over), .bool ((l.getD k c0).yes)], Grow S cap 31 3 n (r.flatMap encG), QuC q r bv, MapI mk (mb g), B]) (D := []) rfl ?_
   exact law_kind1 B A l N c1 hl hB hA hN hu q ba mk n cap k S r bv g hr hf hk hb f hff hK
  ·have hx2 : (((l.getD k c0).kind) % 4) ≠ 1 := by simpa using hx2
   refine At.cond 300 false (c := .tmp 153) (k1 := pt3_48) (k2 := pt3_80) (by kernel_rfl) (by intro u; kernel_rfl) (fun h => by cases h) (fun _ => ?_)
   refine At.pick [3, 4, 5, 7, 30, 31, 32, 59] (e' := [(3, .pointer (some ⟨q, 0, none⟩)), (4, .slice S n cap), (5, .map (some mk)), (7, .pointer (some ⟨ba, 0, none⟩)), (30, .slice A N c1), (31, .int .i64 (N : Int)), (32, .int .i64 (k : Int)), (59, .int .u8 (((l.getD k c0).kind) % 4))]) (by kernel_rfl) ?_
   refine At.region (ops := opt3_80) (m := 2) (k' := kt3_80) (by kernel_rfl) 300 (k'' := pt3_81) (by kernel_rfl) ?_
   refine SOps.pures 2 (i' := 2) (m' := 0) (e' := [(186, .bool ((((l.getD k c0).kind) % 4) == 2)), (187, .bool ((((l.getD k c0).kind) % 4) == 2)), (3, .pointer (some ⟨q, 0, none⟩)), (4, .slice S n cap), (5, .map (some mk)), (7, .pointer (some ⟨ba, 0, none⟩)), (30, .slice A N c1), (31, .int .i64 (N : Int)), (32, .int .i64 (k : Int)), (59, .int .u8 (((l.getD k c0).kind) % 4))]) (by intro u; kernel_rfl) ?_
   refine SOps.nil (.inl rfl) ?_
   refine At.pick [3, 4, 5, 7, 30, 31, 32, 59, 186] (e' := [(3, .pointer (some ⟨q, 0, none⟩)), (4, .slice S n cap), (5, .map (some mk)), (7, .pointer (some ⟨ba, 0, none⟩)), (30, .slice A N c1), (31, .int .i64 (N : Int)), (32, .int .i64 (k : Int)), (59, .int .u8 (((l.getD k c0).kind) % 4)), (186, .bool ((((l.getD k c0).kind) % 4) == 2))]) (by kernel_rfl) ?_
   refine At.split (fun zq => [(3, .pointer (some ⟨q, 0, none⟩)), (4, .slice S n cap), (5, .map (some mk)), (7, .pointer (some ⟨ba, 0, none⟩)), (30, .slice A N c1), (31, .int .i64 (N : Int)), (32, .int .i64 (k : Int)), (59, .int .u8 (((l.getD k c0).kind) % 4)), (186, .bool zq)]) (((((l.getD k c0).kind) % 4) == 2)) (fun hx3 => ?_) (fun hx3 => ?_)
   ·have hx3 : (((l.getD k c0).kind) % 4) = 2 := by simpa using hx3
    refine At.cond 300 true (c := .tmp 186) (k1 := pt3_55) (k2 := pt3_82) (by kernel_rfl) (by intro u; kernel_rfl) (fun _ => ?_) (fun h => by cases h)
    refine At.pick [3, 4, 5, 7, 30, 31, 32] (e' := [(3, .pointer (some ⟨q, 0, none⟩)), (4, .slice S n cap), (5, .map (some mk)), (7, .pointer (some ⟨ba, 0, none⟩)), (30, .slice A N c1), (31, .int .i64 (N : Int)), (32, .int .i64 (k : Int))]) (by kernel_rfl) ?_
    refine At.keep [1, 1, 0, 0, 0] (B := [Cells ba 29 [.int .u8 ((l.getD k c0).kind), .int .i64 ((l.getD k c0).no), .int .i64 ((l.getD k c0).timer), .int .i64 ((l.getD k c0).over), .bool ((l.getD k c0).yes)], Grow S cap 31 3 n (r.flatMap encG), QuC q r bv, MapI mk (mb g), B]) (D := []) rfl ?_
    exact law_kind2 B A l N c1 hl hB hA hN hu q ba mk n cap k S r bv g hr hf hk hb  hK
   ·have hx3 : (((l.getD k c0).kind) % 4) ≠ 2 := by simpa using hx3
    refine At.cond 300 false (c := .tmp 186) (k1 := pt3_55) (k2 := pt3_82) (by kernel_rfl) (by intro u; kernel_rfl) (fun h => by cases h) (fun _ => ?_)
    refine At.pick [3, 4, 5, 7, 30, 31, 32, 59] (e' := [(3, .pointer (some ⟨q, 0, none⟩)), (4, .slice S n cap), (5, .map (some mk)), (7, .pointer (some ⟨ba, 0, none⟩)), (30, .slice A N c1), (31, .int .i64 (N : Int)), (32, .int .i64 (k : Int)), (59, .int .u8 (((l.getD k c0).kind) % 4))]) (by kernel_rfl) ?_
    refine At.region (ops := opt3_82) (m := 2) (k' := kt3_81) (by kernel_rfl) 300 (k'' := pt3_83) (by kernel_rfl) ?_
    refine SOps.pures 2 (i' := 2) (m' := 0) (e' := [(216, .bool ((((l.getD k c0).kind) % 4) == 3)), (217, .bool ((((l.getD k c0).kind) % 4) == 3)), (3, .pointer (some ⟨q, 0, none⟩)), (4, .slice S n cap), (5, .map (some mk)), (7, .pointer (some ⟨ba, 0, none⟩)), (30, .slice A N c1), (31, .int .i64 (N : Int)), (32, .int .i64 (k : Int)), (59, .int .u8 (((l.getD k c0).kind) % 4))]) (by intro u; kernel_rfl) ?_
    refine SOps.nil (.inl rfl) ?_
    refine At.pick [3, 4, 5, 7, 30, 31, 32, 216] (e' := [(3, .pointer (some ⟨q, 0, none⟩)), (4, .slice S n cap), (5, .map (some mk)), (7, .pointer (some ⟨ba, 0, none⟩)), (30, .slice A N c1), (31, .int .i64 (N : Int)), (32, .int .i64 (k : Int)), (216, .bool ((((l.getD k c0).kind) % 4) == 3))]) (by kernel_rfl) ?_
    refine At.split (fun zq => [(3, .pointer (some ⟨q, 0, none⟩)), (4, .slice S n cap), (5, .map (some mk)), (7, .pointer (some ⟨ba, 0, none⟩)), (30, .slice A N c1), (31, .int .i64 (N : Int)), (32, .int .i64 (k : Int)), (216, .bool zq)]) (((((l.getD k c0).kind) % 4) == 3)) (fun hx4 => ?_) (fun hx4 => ?_)
    ·have hx4 : (((l.getD k c0).kind) % 4) = 3 := by simpa using hx4
     refine At.cond 300 true (c := .tmp 216) (k1 := pt3_62) (k2 := pt3_31) (by kernel_rfl) (by intro u; kernel_rfl) (fun _ => ?_) (fun h => by cases h)
     refine At.pick [3, 4, 5, 7, 30, 31, 32] (e' := [(3, .pointer (some ⟨q, 0, none⟩)), (4, .slice S n cap), (5, .map (some mk)), (7, .pointer (some ⟨ba, 0, none⟩)), (30, .slice A N c1), (31, .int .i64 (N : Int)), (32, .int .i64 (k : Int))]) (by kernel_rfl) ?_
     refine At.keep [1, 1, 0, 0, 0] (B := [Cells ba 29 [.int .u8 ((l.getD k c0).kind), .int .i64 ((l.getD k c0).no), .int .i64 ((l.getD k c0).timer), .int .i64 ((l.getD k c0).over), .bool ((l.getD k c0).yes)], Grow S cap 31 3 n (r.flatMap encG), QuC q r bv, MapI mk (mb g), B]) (D := []) rfl ?_
     exact law_kind3 B A l N c1 hl hB hA hN hu q ba mk n cap k S r bv g hr hf hk hb  hK
    ·have hx4 : (((l.getD k c0).kind) % 4) ≠ 3 := by simpa using hx4
     refine At.cond 300 false (c := .tmp 216) (k1 := pt3_62) (k2 := pt3_31) (by kernel_rfl) (by intro u; kernel_rfl) (fun h => by cases h) (fun _ => ?_)
     refine At.pick [3, 4, 5, 30, 31, 32] (e' := [(3, .pointer (some ⟨q, 0, none⟩)), (4, .slice S n cap), (5, .map (some mk)), (30, .slice A N c1), (31, .int .i64 (N : Int)), (32, .int .i64 (k : Int))]) (by kernel_rfl) ?_
     refine At.keep [2, 0, 1, 1] (B := [Grow S cap 31 3 n (r.flatMap encG), QuC q r bv, MapI mk (mb g), B]) (D := [Cells ba 29 [.int .u8 ((l.getD k c0).kind), .int .i64 ((l.getD k c0).no), .int .i64 ((l.getD k c0).timer), .int .i64 ((l.getD k c0).over), .bool ((l.getD k c0).yes)]]) rfl ?_
     have hfin := hf
     exact hK S cap n _ _ _ (by first | omega | (simp; done) | (simp; omega)) hfin hb
theorem law_loop (B : Asn) (A : Option Addr) (l : List Doing) (N c1 : Nat) (hl : l.length = N) (hB : InB B A (l.flatMap encC)) (hA : 0 < N → A = some ⟨blk A, ofs A, none⟩) (hN : N ≤ 120) (hu : ∀ i, i < N → 0 ≤ (l.getD i c0).kind) (q mk : Nat) : ∀ (mm k n cap : Nat) (S : Option Addr) (r : List Sig) (bv : BitVec 64) (g : Int → Option Bool), N - k < mm → k ≤ N → r.length = n → FineG r → Bl bv g → At ⟨Try.prog, 3, (fun v' => star (fact (v' = .bool true) :: [B])), 268, false⟩ pt3_84 [(3, .pointer (some ⟨q, 0, none⟩)), (4, .slice S n cap), (5, .map (some mk)), (30, .slice A N c1), (31, .int .i64 (N : Int)), (32, .int .i64 (k : Int))] [Grow S cap 31 3 n (r.flatMap encG), QuC q r bv, MapI mk (mb g), B] := by
 intro mm
 induction mm with
 | zero => intro k n cap S r bv g h; omega
 | succ mm ih =>
  intro k n cap S r bv g hm hk hr hf hb
  have hlen := hf.len
  refine At.region (ops := opt3_84) (m := 1) (k' := kt3_82) (by kernel_rfl) 300 (k'' := pt3_85) (by kernel_rfl) ?_
  refine SOps.pures 1 (i' := 1) (m' := 0) (e' := [(33, .bool (decide ((k : Int) < (N : Int)))), (3, .pointer (some ⟨q, 0, none⟩)), (4, .slice S n cap), (5, .map (some mk)), (30, .slice A N c1), (31, .int .i64 (N : Int)), (32, .int .i64 (k : Int))]) (by intro u; kernel_rfl) ?_
  refine SOps.nil (.inl rfl) ?_
  refine At.pick [3, 4, 5, 30, 31, 32, 33] (e' := [(3, .pointer (some ⟨q, 0, none⟩)), (4, .slice S n cap), (5, .map (some mk)), (30, .slice A N c1), (31, .int .i64 (N : Int)), (32, .int .i64 (k : Int)), (33, .bool (decide ((k : Int) < (N : Int))))]) (by kernel_rfl) ?_
  refine At.split (fun zq => [(3, .pointer (some ⟨q, 0, none⟩)), (4, .slice S n cap), (5, .map (some mk)), (30, .slice A N c1), (31, .int .i64 (N : Int)), (32, .int .i64 (k : Int)), (33, .bool zq)]) (decide ((k : Int) < (N : Int))) (fun hx1 => ?_) (fun hx1 => ?_)
  ·have hx1 : (k : Int) < (N : Int) := by simpa using hx1
   refine At.cond 300 true (c := .tmp 33) (k1 := pt3_86) (k2 := pt3_87) (by kernel_rfl) (by intro u; kernel_rfl) (fun _ => ?_) (fun h => by cases h)
   refine At.pick [3, 4, 5, 30, 31, 32] (e' := [(3, .pointer (some ⟨q, 0, none⟩)), (4, .slice S n cap), (5, .map (some mk)), (30, .slice A N c1), (31, .int .i64 (N : Int)), (32, .int .i64 (k : Int))]) (by kernel_rfl) ?_
   refine At.region (ops := opt3_86) (m := 4) (k' := kt3_84) (by kernel_rfl) 300 (k'' := pt3_88) (by kernel_rfl) ?_
   refine SOps.v (Val.pv 34 (vN (Instr.indexAt 22 (.slice A N c1) (.int .i64 (k : Int)))) (.pointer (some ⟨(blk A), ofs A + k * 5, none⟩)) (by intro u; kernel_rfl) (pv_indexO (el := 29) (sz := 5) (by kernel_rfl) (by kernel_rfl) (by omega) (by omega) (hA (by omega)) (by omega))) ?_
   refine SOps.v (Val.ldN 3 35 29 (blk A) (ofs A + k * 5) 5 [.int .u8 ((l.getD k c0).kind), .int .i64 ((l.getD k c0).no), .int .i64 ((l.getD k c0).timer), .int .i64 ((l.getD k c0).over), .bool ((l.getD k c0).yes)] rfl (by intro u; kernel_rfl) (by kernel_rfl) (by kernel_rfl) rfl ⟨(Rd.inB hB (flat_get encC 5 (fun _ => rfl) l k 0 (l.getD k c0) _ (getD_some (by omega)) rfl)), (Rd.inB hB (flat_get encC 5 (fun _ => rfl) l k 1 (l.getD k c0) _ (getD_some (by omega)) rfl)), (Rd.inB hB (flat_get encC 5 (fun _ => rfl) l k 2 (l.getD k c0) _ (getD_some (by omega)) rfl)), (Rd.inB hB (flat_get encC 5 (fun _ => rfl) l k 3 (l.getD k c0) _ (getD_some (by omega)) rfl)), (Rd.inB hB (flat_get encC 5 (fun _ => rfl) l k 4 (l.getD k c0) _ (getD_some (by omega)) rfl)), trivial⟩) ?_
   refine SOps.o (Op.new 7 29 [.int .u8 0, .int .i64 0, .int .i64 0, .int .i64 0, .bool false] (fun b => .pointer (some ⟨b, 0, none⟩)) (by intro u b; kernel_rfl) ?_)
   intro bx2
   refine SOps.o (Op.st 0 29 bx2 0 (.agg #[.int .u8 ((l.getD k c0).kind), .int .i64 ((l.getD k c0).no), .int .i64 ((l.getD k c0).timer), .int .i64 ((l.getD k c0).over), .bool ((l.getD k c0).yes)]) [.int .u8 ((l.getD k c0).kind), .int .i64 ((l.getD k c0).no), .int .i64 ((l.getD k c0).timer), .int .i64 ((l.getD k c0).over), .bool ((l.getD k c0).yes)] 5 (B' := Cells bx2 29 [.int .u8 ((l.getD k c0).kind), .int .i64 ((l.getD k c0).no), .int .i64 ((l.getD k c0).timer), .int .i64 ((l.getD k c0).over), .bool ((l.getD k c0).yes)]) (A' := [Cells bx2 29 [.int .u8 ((l.getD k c0).kind), .int .i64 ((l.getD k c0).no), .int .i64 ((l.getD k c0).timer), .int .i64 ((l.getD k c0).over), .bool ((l.getD k c0).yes)], Grow S cap 31 3 n (r.flatMap encG), QuC q r bv, MapI mk (mb g), B]) rfl (by intro u; kernel_rfl) rfl (by kernel_rfl) rfl rfl (Wr.cells rfl rfl) rfl ?_)
   refine SOps.nil (.inl rfl) ?_
   refine At.pick [3, 4, 5, 7, 30, 31, 32] (e' := [(3, .pointer (some ⟨q, 0, none⟩)), (4, .slice S n cap), (5, .map (some mk)), (7, .pointer (some ⟨bx2, 0, none⟩)), (30, .slice A N c1), (31, .int .i64 (N : Int)), (32, .int .i64 (k : Int))]) (by kernel_rfl) ?_
   refine At.region (ops := opt3_88) (m := 1) (k' := kt3_86) (by kernel_rfl) 300 (k'' := pt3_89) (by kernel_rfl) ?_
   refine SOps.pures 1 (i' := 1) (m' := 0) (e' := [(8, .int .i64 (-1)), (3, .pointer (some ⟨q, 0, none⟩)), (4, .slice S n cap), (5, .map (some mk)), (7, .pointer (some ⟨bx2, 0, none⟩)), (30, .slice A N c1), (31, .int .i64 (N : Int)), (32, .int .i64 (k : Int))]) (by intro u; kernel_rfl) ?_
   refine SOps.nil (.inl rfl) ?_
   refine At.pick [3, 4, 5, 7, 8, 30, 31, 32] (e' := [(3, .pointer (some ⟨q, 0, none⟩)), (4, .slice S n cap), (5, .map (some mk)), (7, .pointer (some ⟨bx2, 0, none⟩)), (8, .int .i64 (-1)), (30, .slice A N c1), (31, .int .i64 (N : Int)), (32, .int .i64 (k : Int))]) (by kernel_rfl) ?_
   refine At.region (ops := opt3_89) (m := 4) (k' := kt3_87) (by kernel_rfl) 300 (k'' := pt3_1) (by kernel_rfl) ?_
   refine SOps.pures 2 (i' := 2) (m' := 2) (e' := [(37, .int .i64 (n : Int)), (36, .slice S n cap), (3, .pointer (some ⟨q, 0, none⟩)), (4, .slice S n cap), (5, .map (some mk)), (7, .pointer (some ⟨bx2, 0, none⟩)), (8, .int .i64 (-1)), (30, .slice A N c1), (31, .int .i64 (N : Int)), (32, .int .i64 (k : Int))]) (by intro u; kernel_rfl) ?_
   refine SOps.v (Val.pe 38 (.int .i64 (IntKind.i64.wrap ((n : Int) - 1))) (.int .i64 ((n : Int) - 1)) (by intro u; kernel_rfl) (i64_in rfl (by omega) (by omega))) ?_
   refine SOps.pures 1 (i' := 4) (m' := 0) (e' := [(9, .int .i64 ((n : Int) - 1)), (38, .int .i64 ((n : Int) - 1)), (37, .int .i64 (n : Int)), (36, .slice S n cap), (3, .pointer (some ⟨q, 0, none⟩)), (4, .slice S n cap), (5, .map (some mk)), (7, .pointer (some ⟨bx2, 0, none⟩)), (8, .int .i64 (-1)), (30, .slice A N c1), (31, .int .i64 (N : Int)), (32, .int .i64 (k : Int))]) (by intro u; kernel_rfl) ?_
   refine SOps.nil (.inl rfl) ?_
   refine At.pick [3, 4, 5, 7, 8, 9, 30, 31, 32] (e' := [(3, .pointer (some ⟨q, 0, none⟩)), (4, .slice S n cap), (5, .map (some mk)), (7, .pointer (some ⟨bx2, 0, none⟩)), (8, .int .i64 (-1)), (9, .int .i64 ((n : Int) - 1)), (30, .slice A N c1), (31, .int .i64 (N : Int)), (32, .int .i64 (k : Int))]) (by kernel_rfl) ?_
   refine At.keep [0, 0, 0, 0, 0] (B := [Cells bx2 29 [.int .u8 ((l.getD k c0).kind), .int .i64 ((l.getD k c0).no), .int .i64 ((l.getD k c0).timer), .int .i64 ((l.getD k c0).over), .bool ((l.getD k c0).yes)], Grow S cap 31 3 n (r.flatMap encG), QuC q r bv, MapI mk (mb g), B]) (D := []) rfl ?_
   refine law_first B A l N c1 hl hB hA hN hu q bx2 mk n cap k S r bv g hr hf (by omega) (fun f hff => ?_) n (-1) (by omega) (by rw [← hr]; exact First.start _ _)
   rw [first_open hf hb] at hff
   refine law_round B A l N c1 hl hB hA hN hu q bx2 mk n cap k S r bv g hr hf (by omega) hb f hff (fun S2 cap2 n2 r2 bv2 g2 hr2 hf2 hb2 => ?_)
   have hlen2 := hf2.len
   refine law_tail B A l N c1 hl hB hA hN hu q mk n2 cap2 k S2 r2 bv2 g2 hr2 hf2 (by omega) ?_
   refine At.region (ops := opt3_23) (m := 2) (k' := kt3_2) (by kernel_rfl) 300 (k'' := pt3_84) (by kernel_rfl) ?_
   refine SOps.v (Val.pe 267 (.int .i64 (IntKind.i64.wrap ((k : Int) + 1))) (.int .i64 ((k + 1 : Nat) : Int)) (by intro u; kernel_rfl) (i64_in (by omega) (by omega) (by omega))) ?_
   refine SOps.pures 1 (i' := 2) (m' := 0) (e' := [(32, .int .i64 ((k + 1 : Nat) : Int)), (267, .int .i64 ((k + 1 : Nat) : Int)), (3, .pointer (some ⟨q, 0, none⟩)), (4, .slice S2 n2 cap2), (5, .map (some mk)), (30, .slice A N c1), (31, .int .i64 (N : Int)), (32, .int .i64 (k : Int))]) (by intro u; kernel_rfl) ?_
   refine SOps.nil (.inl rfl) ?_
   refine At.pick [3, 4, 5, 30, 31, 32] (e' := [(3, .pointer (some ⟨q, 0, none⟩)), (4, .slice S2 n2 cap2), (5, .map (some mk)), (30, .slice A N c1), (31, .int .i64 (N : Int)), (32, .int .i64 ((k + 1 : Nat) : Int))]) (by kernel_rfl) ?_
   refine At.keep [0, 0, 0, 0] (B := [Grow S2 cap2 31 3 n2 (r2.flatMap encG), QuC q r2 bv2, MapI mk (mb g2), B]) (D := []) rfl ?_
   exact ih (k + 1) n2 cap2 S2 r2 bv2 g2 (by omega) (by omega) hr2 hf2 hb2
  ·have hx1 : (k : Int) ≥ (N : Int) := by simpa using hx1
   refine At.cond 300 false (c := .tmp 33) (k1 := pt3_86) (k2 := pt3_87) (by kernel_rfl) (by intro u; kernel_rfl) (fun h => by cases h) (fun _ => ?_)
   refine At.pick [] (e' := []) (by kernel_rfl) ?_
   refine At.region (ops := opt3_87) (m := 1) (k' := kt3_85) (by kernel_rfl) 300 (k'' := pt3_90) (by kernel_rfl) ?_
   refine SOps.pures 1 (i' := 1) (m' := 0) (e' := [(2, .bool true)]) (by intro u; kernel_rfl) ?_
   refine SOps.nil (.inl rfl) ?_
   refine At.ret1 (fn := Try.f3) (v := .bool true) (t := 2) (by kernel_rfl) Try.func3 (by kernel_rfl) (by kernel_rfl) (fun F w ho => ?_)
   exact shutS [3] rfl ho
theorem signalPlays (B : Asn) (A : Option Addr) (l : List Doing) (N c1 : Nat) (hl : l.length = N) (hB : InB B A (l.flatMap encC)) (hA : 0 < N → A = some ⟨blk A, ofs A, none⟩) (hu : ∀ i, i < N → 0 ≤ (l.getD i c0).kind) : Ctr Try.prog 3 #[.slice A N c1] [B] (fun v' => star (fact (v' = .bool true) :: [B])) false := by
 refine spec_of_at (fn := Try.f3) (c := bd3) (args := [.slice A N c1]) (n := 268) (e := [(0, .slice A N c1)]) (k := pt3_91) Try.func3 (by kernel_rfl) (by kernel_rfl) (by kernel_rfl) (by kernel_rfl) 300 (by kernel_rfl) ?_
 refine At.region (ops := opt3_91) (m := 1) (k' := kt3_88) (by kernel_rfl) 300 (k'' := pt3_92) (by kernel_rfl) ?_
 refine SOps.pures 1 (i' := 1) (m' := 0) (e' := [(2, .bool false), (0, .slice A N c1)]) (by intro u; kernel_rfl) ?_
 refine SOps.nil (.inl rfl) ?_
 refine At.pick [0] (e' := [(0, .slice A N c1)]) (by kernel_rfl) ?_
 refine At.region (ops := opt3_92) (m := 2) (k' := kt3_90) (by kernel_rfl) 300 (k'' := pt3_93) (by kernel_rfl) ?_
 refine SOps.o (Op.callS 23 4 #[] (.bool true) [] (B := []) (D := [B]) (by intro u; kernel_rfl) (fixedF ) (by first | exact .inr rfl | exact .inl rfl) (by kernel_rfl) ?_)
 refine SOps.pures 1 (i' := 2) (m' := 0) (e' := [(24, .bool false), (23, .bool true), (0, .slice A N c1)]) (by intro u; kernel_rfl) ?_
 refine SOps.nil (.inl rfl) ?_
 refine At.pick [0, 24] (e' := [(0, .slice A N c1), (24, .bool false)]) (by kernel_rfl) ?_
 refine At.cond 300 false (c := .tmp 24) (k1 := pt3_94) (k2 := pt3_95) (by kernel_rfl) (by intro u; kernel_rfl) (fun h => by cases h) (fun _ => ?_)
 refine At.pick [0] (e' := [(0, .slice A N c1)]) (by kernel_rfl) ?_
 refine At.region (ops := opt3_95) (m := 3) (k' := kt3_93) (by kernel_rfl) 300 (k'' := pt3_96) (by kernel_rfl) ?_
 refine SOps.pures 3 (i' := 3) (m' := 0) (e' := [(27, .bool (decide ((N : Int) > 120))), (26, .int .i64 (N : Int)), (25, .slice A N c1), (0, .slice A N c1)]) (by intro u; kernel_rfl) ?_
 refine SOps.nil (.inl rfl) ?_
 refine At.pick [0, 27] (e' := [(0, .slice A N c1), (27, .bool (decide ((N : Int) > 120)))]) (by kernel_rfl) ?_
 refine At.split (fun zq => [(0, .slice A N c1), (27, .bool zq)]) (decide ((N : Int) > 120)) (fun hx1 => ?_) (fun hx1 => ?_)
 ·have hx1 : (N : Int) > 120 := by simpa using hx1
  refine At.cond 300 true (c := .tmp 27) (k1 := pt3_97) (k2 := pt3_98) (by kernel_rfl) (by intro u; kernel_rfl) (fun _ => ?_) (fun h => by cases h)
  refine At.pick [] (e' := []) (by kernel_rfl) ?_
  refine At.region (ops := opt3_97) (m := 1) (k' := kt3_94) (by kernel_rfl) 300 (k'' := pt3_99) (by kernel_rfl) ?_
  refine SOps.pures 1 (i' := 1) (m' := 0) (e' := [(2, .bool true)]) (by intro u; kernel_rfl) ?_
  refine SOps.nil (.inl rfl) ?_
  refine At.ret1 (fn := Try.f3) (v := .bool true) (t := 2) (by kernel_rfl) Try.func3 (by kernel_rfl) (by kernel_rfl) (fun F w ho => ?_)
  exact shutS [0] rfl ho
 ·have hx1 : (N : Int) ≤ 120 := by simpa using hx1
  refine At.cond 300 false (c := .tmp 27) (k1 := pt3_97) (k2 := pt3_98) (by kernel_rfl) (by intro u; kernel_rfl) (fun h => by cases h) (fun _ => ?_)
  refine At.pick [0] (e' := [(0, .slice A N c1)]) (by kernel_rfl) ?_
  refine At.region (ops := opt3_98) (m := 2) (k' := kt3_95) (by kernel_rfl) 300 (k'' := pt3_100) (by kernel_rfl) ?_
  refine SOps.o (Op.callX 28 5 #[] _ _ [] (B := []) (D := [B]) (by intro u; kernel_rfl) (newM) (by first | exact .inr rfl | exact .inl rfl) (by kernel_rfl) ?_)
  rintro qx2 -
  refine SOps.pures 1 (i' := 2) (m' := 0) (e' := [(3, .pointer (some ⟨qx2, 0, none⟩)), (28, .pointer (some ⟨qx2, 0, none⟩)), (0, .slice A N c1)]) (by intro u; kernel_rfl) ?_
  refine SOps.nil (.inl rfl) ?_
  refine At.pick [0, 3] (e' := [(0, .slice A N c1), (3, .pointer (some ⟨qx2, 0, none⟩))]) (by kernel_rfl) ?_
  refine At.region (ops := opt3_100) (m := 1) (k' := kt3_96) (by kernel_rfl) 300 (k'' := pt3_101) (by kernel_rfl) ?_
  refine SOps.pures 1 (i' := 1) (m' := 0) (e' := [(4, .slice none 0 0), (0, .slice A N c1), (3, .pointer (some ⟨qx2, 0, none⟩))]) (by intro u; kernel_rfl) ?_
  refine SOps.nil (.inl rfl) ?_
  refine At.pick [0, 3, 4] (e' := [(0, .slice A N c1), (3, .pointer (some ⟨qx2, 0, none⟩)), (4, .slice none 0 0)]) (by kernel_rfl) ?_
  refine At.region (ops := opt3_101) (m := 2) (k' := kt3_97) (by kernel_rfl) 300 (k'' := pt3_102) (by kernel_rfl) ?_
  refine SOps.o (Op.newObj 29 (.map #[] 0) (fun b => .map (some b)) (by intro u b; kernel_rfl) ?_)
  intro mx3
  refine SOps.conseq1 (fun F w ho => newMap ho) ?_
  rw [mb_none]
  refine SOps.pures 1 (i' := 2) (m' := 0) (e' := [(5, .map (some mx3)), (29, .map (some mx3)), (0, .slice A N c1), (3, .pointer (some ⟨qx2, 0, none⟩)), (4, .slice none 0 0)]) (by intro u; kernel_rfl) ?_
  refine SOps.nil (.inl rfl) ?_
  refine At.pick [0, 3, 4, 5] (e' := [(0, .slice A N c1), (3, .pointer (some ⟨qx2, 0, none⟩)), (4, .slice none 0 0), (5, .map (some mx3))]) (by kernel_rfl) ?_
  refine At.region (ops := opt3_102) (m := 3) (k' := kt3_98) (by kernel_rfl) 300 (k'' := pt3_84) (by kernel_rfl) ?_
  refine SOps.pures 3 (i' := 3) (m' := 0) (e' := [(32, .int .i64 0), (31, .int .i64 (N : Int)), (30, .slice A N c1), (0, .slice A N c1), (3, .pointer (some ⟨qx2, 0, none⟩)), (4, .slice none 0 0), (5, .map (some mx3))]) (by intro u; kernel_rfl) ?_
  refine SOps.nil (.inl rfl) ?_
  refine At.pick [3, 4, 5, 30, 31, 32] (e' := [(3, .pointer (some ⟨qx2, 0, none⟩)), (4, .slice none 0 0), (5, .map (some mx3)), (30, .slice A N c1), (31, .int .i64 (N : Int)), (32, .int .i64 0)]) (by kernel_rfl) ?_
  refine At.conseq1 (fun F w ho => Grow.nil_ 31 3 ho) ?_
  refine At.keep [0, 1, 0, 0] (B := [Grow none 0 31 3 0 (([]).flatMap encG), QuC qx2 ([]) (0#64), MapI mx3 (mb (fun _ => none)), B]) (D := []) rfl ?_
  exact law_loop B A l N c1 hl hB hA (by omega) hu qx2 mx3 (N + 1) 0 0 0 none [] 0#64 (fun _ => none) (by omega) (by omega) rfl fine_nil bl_nil
end Go.Proofs.Sg
