/- Deadline: cycles and loads where they are asked, and the fixed facts. -/
import Derived.Test.YtcndjkjlgdidoaaDlD
namespace Go.Proofs.Dl
open Go Go.Sp Go.Dl
set_option linter.unusedVariables false
set_option linter.unusedSimpArgs false
set_option linter.unnecessarySimpa false
set_option maxRecDepth 100000
theorem gcd_step {a b : Int} (h0 : 0 ≤ a) (h0b : 0 ≤ b) (h1 : b ≠ 0) : Nat.gcd b.toNat (a % b).toNat = Nat.gcd a.toNat b.toNat := by
  rw [Nat.gcd_comm a.toNat, Int.toNat_emod h0 h0b]; exact (Nat.gcd_rec b.toNat a.toNat ▸ (by rw [Nat.gcd_comm]))
noncomputable def bd14 : Code := (Try.f14.body).getD .skip
noncomputable def kt14_0 : List Item := .code (pick [1, 1] bd14) :: []
noncomputable def kt14_1 : List Item := .inBlock 0 :: kt14_0
noncomputable def kt14_2 : List Item := .inLoop (pick [1, 0, 0, 0] bd14) :: kt14_1
noncomputable def kt14_3 : List Item := .code (pick [1, 0, 0, 0, 1] bd14) :: kt14_2
noncomputable def kt14_4 : List Item := .code (pick [1, 0, 0, 0, 0, 1] bd14) :: kt14_3
noncomputable def pt14_0 : List Item := .code (pick [1, 0, 0, 0, 0, 0] bd14) :: kt14_4
noncomputable def opt14_0 : Array Oper := opsOf (pick [1, 0, 0, 0, 0, 0] bd14)
noncomputable def pt14_1 : List Item := .code (pick [1, 0, 0, 0, 0, 1] bd14) :: kt14_3
noncomputable def kt14_5 : List Item := .inBlock 1 :: kt14_2
noncomputable def pt14_2 : List Item := .code (pick [1, 0, 0, 0, 1, 0] bd14) :: kt14_5
noncomputable def opt14_2 : Array Oper := opsOf (pick [1, 0, 0, 0, 1, 0] bd14)
noncomputable def kt14_6 : List Item := .code (pick [1, 1, 1] bd14) :: []
noncomputable def pt14_3 : List Item := .code (pick [1, 1, 0] bd14) :: kt14_6
noncomputable def opt14_3 : Array Oper := opsOf (pick [1, 1, 0] bd14)
noncomputable def pt14_4 : List Item := .code (pick [1, 1, 1] bd14) :: []
noncomputable def kt14_7 : List Item := .code (pick [1] bd14) :: []
noncomputable def pt14_5 : List Item := .code (pick [0] bd14) :: kt14_7
noncomputable def opt14_5 : Array Oper := opsOf (pick [0] bd14)
theorem gcd_loop (a0 b0 z : Int) (hz : ((Nat.gcd a0.toNat b0.toNat : Nat) : Int) = z) : ∀ (n : Nat) (a b : Int), b < n → 0 ≤ a → 0 ≤ b → Nat.gcd a.toNat b.toNat = Nat.gcd a0.toNat b0.toNat → At ⟨Try.prog, 14, (fun v' => star (fact (v' = .int .i64 z) :: [])), 12, false⟩ pt14_0 [(0, .int .i64 a), (1, .int .i64 b)] [] := by
 intro n
 induction n with
 | zero => intro a b h; omega
 | succ n ih =>
  intro a b hn h0 h0b hg
  refine At.region (ops := opt14_0) (m := 2) (k' := kt14_4) (by kernel_rfl) 300 (k'' := pt14_1) (by kernel_rfl) ?_
  refine SOps.pures 2 (i' := 2) (m' := 0) (e' := [(6, .bool (b != 0)), (5, .int .i64 b), (0, .int .i64 a), (1, .int .i64 b)]) (by intro u; kernel_rfl) ?_
  refine SOps.nil (.inl rfl) ?_
  refine At.pick [0, 1, 6] (e' := [(0, .int .i64 a), (1, .int .i64 b), (6, .bool (b != 0))]) (by kernel_rfl) ?_
  refine At.split (fun zq => [(0, .int .i64 a), (1, .int .i64 b), (6, .bool zq)]) ((b != 0)) (fun hx1 => ?_) (fun hx1 => ?_)
  ·have hx1 : b ≠ 0 := by simpa using hx1
   refine At.cond 300 true (c := .tmp 6) (k1 := pt14_2) (k2 := pt14_3) (by kernel_rfl) (by intro u; kernel_rfl) (fun _ => ?_) (fun h => by cases h)
   refine At.pick [0, 1] (e' := [(0, .int .i64 a), (1, .int .i64 b)]) (by kernel_rfl) ?_
   refine At.regionQ (ops := opt14_2) (m := 6) (k' := kt14_5) (by kernel_rfl) 300 (k'' := pt14_0) (by kernel_rfl) (by kernel_rfl) (by kernel_rfl) ?_
   refine SOps.pures 3 (i' := 3) (m' := 3) (e' := [(9, .int .i64 b), (8, .int .i64 a), (7, .int .i64 b), (0, .int .i64 a), (1, .int .i64 b)]) (by intro u; kernel_rfl) ?_
   refine SOps.v (Val.pv 10 (vN (Op.intDiv .rem .i64 a b)) (.int .i64 (a % b)) (by intro u; kernel_rfl) (pv_rem (by omega) (by omega))) ?_
   refine SOps.pures 2 (i' := 6) (m' := 0) (e' := [(1, .int .i64 (a % b)), (0, .int .i64 b), (10, .int .i64 (a % b)), (9, .int .i64 b), (8, .int .i64 a), (7, .int .i64 b), (0, .int .i64 a), (1, .int .i64 b)]) (by intro u; kernel_rfl) ?_
   refine SOps.nil (.inr (by kernel_rfl)) ?_
   refine At.pick [0, 1] (e' := [(0, .int .i64 b), (1, .int .i64 (a % b))]) (by kernel_rfl) ?_
   exact ih b (a % b) (by have := Int.emod_lt_of_pos a (show 0 < b by omega); have := Int.emod_nonneg a (show b ≠ 0 by omega); omega) (by omega) (by have := Int.emod_nonneg a (show b ≠ 0 by omega); omega) (by rw [← hg]; exact gcd_step h0 h0b hx1)
  ·have hx1 : b = 0 := by simpa using hx1
   refine At.cond 300 false (c := .tmp 6) (k1 := pt14_2) (k2 := pt14_3) (by kernel_rfl) (by intro u; kernel_rfl) (fun h => by cases h) (fun _ => ?_)
   refine At.pick [0] (e' := [(0, .int .i64 a)]) (by kernel_rfl) ?_
   refine At.region (ops := opt14_3) (m := 2) (k' := kt14_6) (by kernel_rfl) 300 (k'' := pt14_4) (by kernel_rfl) ?_
   refine SOps.pures 2 (i' := 2) (m' := 0) (e' := [(4, .int .i64 a), (11, .int .i64 a), (0, .int .i64 a)]) (by intro u; kernel_rfl) ?_
   refine SOps.nil (.inl rfl) ?_
   refine At.pick [4] (e' := [(4, .int .i64 a)]) (by kernel_rfl) ?_
   refine At.ret1 (fn := Try.f14) (v := .int .i64 a) (t := 4) (by kernel_rfl) Try.func14 (by kernel_rfl) (by kernel_rfl) (fun F w ho => ?_)
   exact shutV (by rw [← hz, ← hg, hx1]; simp only [Int.toNat_zero, Nat.gcd_zero_right]; congr 1; omega) [] rfl ho
theorem gcdc (a0 b0 : Int) (h0 : 0 ≤ a0) (h1 : 0 ≤ b0) (z : Int) (hz : ((Nat.gcd a0.toNat b0.toNat : Nat) : Int) = z) : Ctr Try.prog 14 #[.int .i64 a0, .int .i64 b0] [] (fun v' => star (fact (v' = .int .i64 z) :: [])) false := by
 refine spec_of_at (fn := Try.f14) (c := bd14) (args := [.int .i64 a0, .int .i64 b0]) (n := 12) (e := [(0, .int .i64 a0), (1, .int .i64 b0)]) (k := pt14_5) Try.func14 (by kernel_rfl) (by kernel_rfl) (by kernel_rfl) (by kernel_rfl) 300 (by kernel_rfl) ?_
 refine At.region (ops := opt14_5) (m := 1) (k' := kt14_7) (by kernel_rfl) 300 (k'' := pt14_0) (by kernel_rfl) ?_
 refine SOps.pures 1 (i' := 1) (m' := 0) (e' := [(4, .int .i64 0), (0, .int .i64 a0), (1, .int .i64 b0)]) (by intro u; kernel_rfl) ?_
 refine SOps.nil (.inl rfl) ?_
 refine At.pick [0, 1] (e' := [(0, .int .i64 a0), (1, .int .i64 b0)]) (by kernel_rfl) ?_
 exact gcd_loop a0 b0 z hz (b0.toNat + 1) a0 b0 (by omega) h0 h1 rfl
noncomputable def bd10 : Code := (Try.f10.body).getD .skip
noncomputable def kt10_0 : List Item := .code (pick [1] bd10) :: []
noncomputable def pt10_0 : List Item := .code (pick [0] bd10) :: kt10_0
noncomputable def opt10_0 : Array Oper := opsOf (pick [0] bd10)
noncomputable def kt10_1 : List Item := .code (pick [1, 1] bd10) :: []
noncomputable def kt10_2 : List Item := .code (pick [1, 0, 1] bd10) :: kt10_1
noncomputable def pt10_1 : List Item := .code (pick [1, 0, 0] bd10) :: kt10_2
noncomputable def opt10_1 : Array Oper := opsOf (pick [1, 0, 0] bd10)
noncomputable def pt10_2 : List Item := .code (pick [1, 0, 1] bd10) :: kt10_1
noncomputable def kt10_3 : List Item := .code (pick [1, 0, 1, 0, 1] bd10) :: kt10_1
noncomputable def pt10_3 : List Item := .code (pick [1, 0, 1, 0, 0] bd10) :: kt10_3
noncomputable def opt10_3 : Array Oper := opsOf (pick [1, 0, 1, 0, 0] bd10)
noncomputable def kt10_4 : List Item := .code (pick [1, 1, 1] bd10) :: []
noncomputable def pt10_4 : List Item := .code (pick [1, 1, 0] bd10) :: kt10_4
noncomputable def opt10_4 : Array Oper := opsOf (pick [1, 1, 0] bd10)
noncomputable def pt10_5 : List Item := .code (pick [1, 0, 1, 0, 1] bd10) :: kt10_1
noncomputable def kt10_5 : List Item := .code (pick [1, 1, 1, 1] bd10) :: []
noncomputable def kt10_6 : List Item := .code (pick [1, 1, 1, 0, 1] bd10) :: kt10_5
noncomputable def pt10_6 : List Item := .code (pick [1, 1, 1, 0, 0] bd10) :: kt10_6
noncomputable def opt10_6 : Array Oper := opsOf (pick [1, 1, 1, 0, 0] bd10)
noncomputable def kt10_7 : List Item := .inBlock 0 :: kt10_5
noncomputable def kt10_8 : List Item := .inLoop (pick [1, 1, 1, 0, 1, 0, 0] bd10) :: kt10_7
noncomputable def kt10_9 : List Item := .code (pick [1, 1, 1, 0, 1, 0, 0, 1] bd10) :: kt10_8
noncomputable def pt10_7 : List Item := .code (pick [1, 1, 1, 0, 1, 0, 0, 0] bd10) :: kt10_9
noncomputable def opt10_7 : Array Oper := opsOf (pick [1, 1, 1, 0, 1, 0, 0, 0] bd10)
noncomputable def kt10_10 : List Item := .code (pick [1, 1, 1, 0, 1, 0, 0, 1, 1] bd10) :: kt10_8
noncomputable def pt10_8 : List Item := .code (pick [1, 1, 1, 0, 1, 0, 0, 1, 0] bd10) :: kt10_10
noncomputable def kt10_11 : List Item := .code (pick [1, 1, 1, 0, 1, 0, 0, 1, 1, 1] bd10) :: kt10_8
noncomputable def kt10_12 : List Item := .inBlock 1 :: kt10_11
noncomputable def kt10_13 : List Item := .code (pick [1, 1, 1, 0, 1, 0, 0, 1, 1, 0, 0, 1] bd10) :: kt10_12
noncomputable def pt10_9 : List Item := .code (pick [1, 1, 1, 0, 1, 0, 0, 1, 1, 0, 0, 0] bd10) :: kt10_13
noncomputable def opt10_9 : Array Oper := opsOf (pick [1, 1, 1, 0, 1, 0, 0, 1, 1, 0, 0, 0] bd10)
noncomputable def kt10_14 : List Item := .code (pick [1, 1, 1, 1, 1] bd10) :: []
noncomputable def pt10_10 : List Item := .code (pick [1, 1, 1, 1, 0] bd10) :: kt10_14
noncomputable def opt10_10 : Array Oper := opsOf (pick [1, 1, 1, 1, 0] bd10)
noncomputable def kt10_15 : List Item := .code (pick [1, 1, 1, 0, 1, 0, 0, 1, 1, 0, 0, 1, 1] bd10) :: kt10_12
noncomputable def pt10_11 : List Item := .code (pick [1, 1, 1, 0, 1, 0, 0, 1, 1, 0, 0, 1, 0] bd10) :: kt10_15
noncomputable def opt10_11 : Array Oper := opsOf (pick [1, 1, 1, 0, 1, 0, 0, 1, 1, 0, 0, 1, 0] bd10)
noncomputable def kt10_16 : List Item := .code (pick [1, 1, 1, 0, 1, 0, 0, 1, 1, 0, 0, 1, 1, 1] bd10) :: kt10_12
noncomputable def pt10_12 : List Item := .code (pick [1, 1, 1, 0, 1, 0, 0, 1, 1, 0, 0, 1, 1, 0] bd10) :: kt10_16
noncomputable def opt10_12 : Array Oper := opsOf (pick [1, 1, 1, 0, 1, 0, 0, 1, 1, 0, 0, 1, 1, 0] bd10)
noncomputable def pt10_13 : List Item := .code (pick [1, 1, 1, 0, 1, 0, 0, 1, 1, 0, 0, 1, 1, 1] bd10) :: kt10_12
noncomputable def kt10_17 : List Item := .code (pick [1, 1, 1, 0, 1, 0, 0, 1, 1, 0, 0, 1, 1, 1, 0, 1] bd10) :: kt10_12
noncomputable def pt10_14 : List Item := .code (pick [1, 1, 1, 0, 1, 0, 0, 1, 1, 0, 0, 1, 1, 1, 0, 0] bd10) :: kt10_17
noncomputable def opt10_14 : Array Oper := opsOf (pick [1, 1, 1, 0, 1, 0, 0, 1, 1, 0, 0, 1, 1, 1, 0, 0] bd10)
noncomputable def pt10_15 : List Item := .code (pick [1, 1, 1, 0, 1, 0, 0, 1, 1, 1] bd10) :: kt10_8
noncomputable def opt10_15 : Array Oper := opsOf (pick [1, 1, 1, 0, 1, 0, 0, 1, 1, 1] bd10)
noncomputable def pt10_16 : List Item := .code (pick [1, 1, 1, 1, 1] bd10) :: []
theorem cycle_no (B : Asn) (A : Option Addr) (l : List Task) (n c0 : Nat) (hl : l.length = n) (hB : InB B A (tasks l)) (hA : 0 < n → A = some ⟨blk A, ofs A, none⟩) (hn : n ≤ 1000000) (hR : rightB l = false) : Ctr Try.prog 10 #[.slice A n c0] [B] (fun v' => star (fact (v' = .tuple #[.int .i64 0, .bool false]) :: [B])) false := by
 refine spec_of_at (fn := Try.f10) (c := bd10) (args := [.slice A n c0]) (n := 29) (e := [(0, .slice A n c0)]) (k := pt10_0) Try.func10 (by kernel_rfl) (by kernel_rfl) (by kernel_rfl) (by kernel_rfl) 300 (by kernel_rfl) ?_
 refine At.region (ops := opt10_0) (m := 2) (k' := kt10_0) (by kernel_rfl) 300 (k'' := pt10_1) (by kernel_rfl) ?_
 refine SOps.pures 2 (i' := 2) (m' := 0) (e' := [(3, .bool false), (2, .int .i64 0), (0, .slice A n c0)]) (by intro u; kernel_rfl) ?_
 refine SOps.nil (.inl rfl) ?_
 refine At.pick [0] (e' := [(0, .slice A n c0)]) (by kernel_rfl) ?_
 refine At.region (ops := opt10_1) (m := 3) (k' := kt10_2) (by kernel_rfl) 300 (k'' := pt10_2) (by kernel_rfl) ?_
 refine SOps.pures 1 (i' := 1) (m' := 2) (e' := [(7, .slice A n c0), (0, .slice A n c0)]) (by intro u; kernel_rfl) ?_
 refine SOps.o (Op.callS 8 8 #[.slice A n c0] (.bool (rightB l)) [0] (B := [B]) (D := []) (by intro u; kernel_rfl) (right8 B A l n c0 hl hB hA hn) (by first | exact .inr rfl | exact .inl rfl) (by kernel_rfl) ?_)
 refine SOps.pures 1 (i' := 3) (m' := 0) (e' := [(9, .bool (!(rightB l))), (8, .bool (rightB l)), (7, .slice A n c0), (0, .slice A n c0)]) (by intro u; kernel_rfl) ?_
 refine SOps.nil (.inl rfl) ?_
 refine At.pick [0, 9] (e' := [(0, .slice A n c0), (9, .bool (!(rightB l)))]) (by kernel_rfl) ?_
 refine At.split (fun zq => [(0, .slice A n c0), (9, .bool zq)]) (!(rightB l)) (fun hx1 => ?_) (fun hx1 => ?_)
 ·refine At.cond 300 true (c := .tmp 9) (k1 := pt10_3) (k2 := pt10_4) (by kernel_rfl) (by intro u; kernel_rfl) (fun _ => ?_) (fun h => by cases h)
  refine At.pick [] (e' := []) (by kernel_rfl) ?_
  refine At.region (ops := opt10_3) (m := 2) (k' := kt10_3) (by kernel_rfl) 300 (k'' := pt10_5) (by kernel_rfl) ?_
  refine SOps.pures 2 (i' := 2) (m' := 0) (e' := [(3, .bool false), (2, .int .i64 0)]) (by intro u; kernel_rfl) ?_
  refine SOps.nil (.inl rfl) ?_
  refine At.pick [2, 3] (e' := [(2, .int .i64 0), (3, .bool false)]) (by kernel_rfl) ?_
  refine At.ret2 (fn := Try.f10) (v := .int .i64 0) (u := .bool false) (t := 2) (s := 3) (by kernel_rfl) Try.func10 (by kernel_rfl) (by kernel_rfl) (by kernel_rfl) (fun F w ho => ?_)
  exact shutS [0] rfl ho
 ·rw [hR] at hx1; cases hx1
noncomputable def bd12 : Code := (Try.f12.body).getD .skip
noncomputable def kt12_0 : List Item := .code (pick [1] bd12) :: []
noncomputable def pt12_0 : List Item := .code (pick [0] bd12) :: kt12_0
noncomputable def opt12_0 : Array Oper := opsOf (pick [0] bd12)
noncomputable def kt12_1 : List Item := .code (pick [1, 1] bd12) :: []
noncomputable def pt12_1 : List Item := .code (pick [1, 0] bd12) :: kt12_1
noncomputable def opt12_1 : Array Oper := opsOf (pick [1, 0] bd12)
noncomputable def kt12_2 : List Item := .code (pick [1, 1, 1] bd12) :: []
noncomputable def kt12_3 : List Item := .code (pick [1, 1, 0, 1] bd12) :: kt12_2
noncomputable def pt12_2 : List Item := .code (pick [1, 1, 0, 0] bd12) :: kt12_3
noncomputable def opt12_2 : Array Oper := opsOf (pick [1, 1, 0, 0] bd12)
noncomputable def pt12_3 : List Item := .code (pick [1, 1, 0, 1] bd12) :: kt12_2
noncomputable def kt12_4 : List Item := .code (pick [1, 1, 0, 1, 0, 1] bd12) :: kt12_2
noncomputable def pt12_4 : List Item := .code (pick [1, 1, 0, 1, 0, 0] bd12) :: kt12_4
noncomputable def opt12_4 : Array Oper := opsOf (pick [1, 1, 0, 1, 0, 0] bd12)
noncomputable def kt12_5 : List Item := .code (pick [1, 1, 1, 1] bd12) :: []
noncomputable def kt12_6 : List Item := .code (pick [1, 1, 1, 0, 1] bd12) :: kt12_5
noncomputable def pt12_5 : List Item := .code (pick [1, 1, 1, 0, 0] bd12) :: kt12_6
noncomputable def opt12_5 : Array Oper := opsOf (pick [1, 1, 1, 0, 0] bd12)
noncomputable def pt12_6 : List Item := .code (pick [1, 1, 0, 1, 0, 1] bd12) :: kt12_2
noncomputable def kt12_7 : List Item := .inBlock 0 :: kt12_5
noncomputable def kt12_8 : List Item := .inLoop (pick [1, 1, 1, 0, 1, 0, 0] bd12) :: kt12_7
noncomputable def kt12_9 : List Item := .code (pick [1, 1, 1, 0, 1, 0, 0, 1] bd12) :: kt12_8
noncomputable def pt12_7 : List Item := .code (pick [1, 1, 1, 0, 1, 0, 0, 0] bd12) :: kt12_9
noncomputable def opt12_7 : Array Oper := opsOf (pick [1, 1, 1, 0, 1, 0, 0, 0] bd12)
noncomputable def kt12_10 : List Item := .code (pick [1, 1, 1, 0, 1, 0, 0, 1, 1] bd12) :: kt12_8
noncomputable def pt12_8 : List Item := .code (pick [1, 1, 1, 0, 1, 0, 0, 1, 0] bd12) :: kt12_10
noncomputable def kt12_11 : List Item := .code (pick [1, 1, 1, 0, 1, 0, 0, 1, 1, 1] bd12) :: kt12_8
noncomputable def kt12_12 : List Item := .inBlock 1 :: kt12_11
noncomputable def kt12_13 : List Item := .code (pick [1, 1, 1, 0, 1, 0, 0, 1, 1, 0, 0, 1] bd12) :: kt12_12
noncomputable def pt12_9 : List Item := .code (pick [1, 1, 1, 0, 1, 0, 0, 1, 1, 0, 0, 0] bd12) :: kt12_13
noncomputable def opt12_9 : Array Oper := opsOf (pick [1, 1, 1, 0, 1, 0, 0, 1, 1, 0, 0, 0] bd12)
noncomputable def kt12_14 : List Item := .code (pick [1, 1, 1, 1, 1] bd12) :: []
noncomputable def pt12_10 : List Item := .code (pick [1, 1, 1, 1, 0] bd12) :: kt12_14
noncomputable def opt12_10 : Array Oper := opsOf (pick [1, 1, 1, 1, 0] bd12)
noncomputable def pt12_11 : List Item := .code (pick [1, 1, 1, 0, 1, 0, 0, 1, 1, 0, 0, 1] bd12) :: kt12_12
noncomputable def opt12_11 : Array Oper := opsOf (pick [1, 1, 1, 0, 1, 0, 0, 1, 1, 0, 0, 1] bd12)
noncomputable def pt12_12 : List Item := .code (pick [1, 1, 1, 0, 1, 0, 0, 1, 1, 1] bd12) :: kt12_8
noncomputable def opt12_12 : Array Oper := opsOf (pick [1, 1, 1, 0, 1, 0, 0, 1, 1, 1] bd12)
noncomputable def pt12_13 : List Item := .code (pick [1, 1, 1, 1, 1] bd12) :: []
theorem load_no (B : Asn) (A : Option Addr) (l : List Task) (n c0 : Nat) (hl : l.length = n) (hB : InB B A (tasks l)) (hA : 0 < n → A = some ⟨blk A, ofs A, none⟩) (hn : n ≤ 1000000) (hR : rightB l = false) : Ctr Try.prog 12 #[.slice A n c0] [B] (fun v' => star (fact (v' = .tuple #[.int .i64 0, .int .i64 0, .bool false]) :: [B])) false := by
 refine spec_of_at (fn := Try.f12) (c := bd12) (args := [.slice A n c0]) (n := 32) (e := [(0, .slice A n c0)]) (k := pt12_0) Try.func12 (by kernel_rfl) (by kernel_rfl) (by kernel_rfl) (by kernel_rfl) 300 (by kernel_rfl) ?_
 refine At.region (ops := opt12_0) (m := 3) (k' := kt12_0) (by kernel_rfl) 300 (k'' := pt12_1) (by kernel_rfl) ?_
 refine SOps.pures 3 (i' := 3) (m' := 0) (e' := [(4, .bool false), (3, .int .i64 0), (2, .int .i64 0), (0, .slice A n c0)]) (by intro u; kernel_rfl) ?_
 refine SOps.nil (.inl rfl) ?_
 refine At.pick [0, 2] (e' := [(0, .slice A n c0), (2, .int .i64 0)]) (by kernel_rfl) ?_
 refine At.region (ops := opt12_1) (m := 7) (k' := kt12_1) (by kernel_rfl) 300 (k'' := pt12_2) (by kernel_rfl) ?_
 refine SOps.pures 1 (i' := 1) (m' := 6) (e' := [(8, .slice A n c0), (0, .slice A n c0), (2, .int .i64 0)]) (by intro u; kernel_rfl) ?_
 refine SOps.o (Op.callS 9 10 #[.slice A n c0] (.tuple #[.int .i64 0, .bool false]) [0] (B := [B]) (D := []) (by intro u; kernel_rfl) (cycle_no B A l n c0 hl hB hA hn hR) (by first | exact .inr rfl | exact .inl rfl) (by kernel_rfl) ?_)
 refine SOps.pures 5 (i' := 7) (m' := 0) (e' := [(4, .bool false), (3, .int .i64 0), (11, .bool false), (10, .int .i64 0), (7, .tuple #[.int .i64 0, .bool false]), (9, .tuple #[.int .i64 0, .bool false]), (8, .slice A n c0), (0, .slice A n c0), (2, .int .i64 0)]) (by intro u; kernel_rfl) ?_
 refine SOps.nil (.inl rfl) ?_
 refine At.pick [0, 2, 3, 4] (e' := [(0, .slice A n c0), (2, .int .i64 0), (3, .int .i64 0), (4, .bool false)]) (by kernel_rfl) ?_
 refine At.region (ops := opt12_2) (m := 2) (k' := kt12_3) (by kernel_rfl) 300 (k'' := pt12_3) (by kernel_rfl) ?_
 refine SOps.pures 2 (i' := 2) (m' := 0) (e' := [(13, .bool true), (12, .bool false), (0, .slice A n c0), (2, .int .i64 0), (3, .int .i64 0), (4, .bool false)]) (by intro u; kernel_rfl) ?_
 refine SOps.nil (.inl rfl) ?_
 refine At.pick [0, 2, 3, 13] (e' := [(0, .slice A n c0), (2, .int .i64 0), (3, .int .i64 0), (13, .bool true)]) (by kernel_rfl) ?_
 refine At.cond 300 true (c := .tmp 13) (k1 := pt12_4) (k2 := pt12_5) (by kernel_rfl) (by intro u; kernel_rfl) (fun _ => ?_) (fun h => by cases h)
 refine At.pick [] (e' := []) (by kernel_rfl) ?_
 refine At.region (ops := opt12_4) (m := 3) (k' := kt12_4) (by kernel_rfl) 300 (k'' := pt12_6) (by kernel_rfl) ?_
 refine SOps.pures 3 (i' := 3) (m' := 0) (e' := [(4, .bool false), (3, .int .i64 0), (2, .int .i64 0)]) (by intro u; kernel_rfl) ?_
 refine SOps.nil (.inl rfl) ?_
 refine At.pick [2, 3, 4] (e' := [(2, .int .i64 0), (3, .int .i64 0), (4, .bool false)]) (by kernel_rfl) ?_
 refine At.ret3 (fn := Try.f12) (v := .int .i64 0) (u := .int .i64 0) (x := .bool false) (t := 2) (s := 3) (r := 4) (by kernel_rfl) Try.func12 (by kernel_rfl) (by kernel_rfl) (by kernel_rfl) (by kernel_rfl) (fun F w ho => ?_)
 exact shutS [0] rfl ho
noncomputable def bd11 : Code := (Try.f11.body).getD .skip
noncomputable def kt11_0 : List Item := .code (pick [1] bd11) :: []
noncomputable def pt11_0 : List Item := .code (pick [0] bd11) :: kt11_0
noncomputable def opt11_0 : Array Oper := opsOf (pick [0] bd11)
noncomputable def kt11_1 : List Item := .code (pick [1, 1] bd11) :: []
noncomputable def pt11_1 : List Item := .code (pick [1, 0] bd11) :: kt11_1
noncomputable def opt11_1 : Array Oper := opsOf (pick [1, 0] bd11)
noncomputable def kt11_2 : List Item := .code (pick [1, 1, 1] bd11) :: []
noncomputable def pt11_2 : List Item := .code (pick [1, 1, 0] bd11) :: kt11_2
noncomputable def opt11_2 : Array Oper := opsOf (pick [1, 1, 0] bd11)
noncomputable def pt11_3 : List Item := .code (pick [1, 1, 1] bd11) :: []
theorem fits_no (B : Asn) (A : Option Addr) (l : List Task) (n c0 : Nat) (hl : l.length = n) (hB : InB B A (tasks l)) (hA : 0 < n → A = some ⟨blk A, ofs A, none⟩) (hn : n ≤ 1000000) (hR : rightB l = false) : Ctr Try.prog 11 #[.slice A n c0] [B] (fun v' => star (fact (v' = .bool false) :: [B])) false := by
 refine spec_of_at (fn := Try.f11) (c := bd11) (args := [.slice A n c0]) (n := 18) (e := [(0, .slice A n c0)]) (k := pt11_0) Try.func11 (by kernel_rfl) (by kernel_rfl) (by kernel_rfl) (by kernel_rfl) 300 (by kernel_rfl) ?_
 refine At.region (ops := opt11_0) (m := 1) (k' := kt11_0) (by kernel_rfl) 300 (k'' := pt11_1) (by kernel_rfl) ?_
 refine SOps.pures 1 (i' := 1) (m' := 0) (e' := [(2, .bool false), (0, .slice A n c0)]) (by intro u; kernel_rfl) ?_
 refine SOps.nil (.inl rfl) ?_
 refine At.pick [0] (e' := [(0, .slice A n c0)]) (by kernel_rfl) ?_
 refine At.region (ops := opt11_1) (m := 9) (k' := kt11_1) (by kernel_rfl) 300 (k'' := pt11_2) (by kernel_rfl) ?_
 refine SOps.pures 1 (i' := 1) (m' := 8) (e' := [(7, .slice A n c0), (0, .slice A n c0)]) (by intro u; kernel_rfl) ?_
 refine SOps.o (Op.callS 8 12 #[.slice A n c0] (.tuple #[.int .i64 0, .int .i64 0, .bool false]) [0] (B := [B]) (D := []) (by intro u; kernel_rfl) (load_no B A l n c0 hl hB hA hn hR) (by first | exact .inr rfl | exact .inl rfl) (by kernel_rfl) ?_)
 refine SOps.pures 7 (i' := 9) (m' := 0) (e' := [(5, .bool false), (4, .int .i64 0), (3, .int .i64 0), (11, .bool false), (10, .int .i64 0), (9, .int .i64 0), (6, .tuple #[.int .i64 0, .int .i64 0, .bool false]), (8, .tuple #[.int .i64 0, .int .i64 0, .bool false]), (7, .slice A n c0), (0, .slice A n c0)]) (by intro u; kernel_rfl) ?_
 refine SOps.nil (.inl rfl) ?_
 refine At.pick [3, 4, 5] (e' := [(3, .int .i64 0), (4, .int .i64 0), (5, .bool false)]) (by kernel_rfl) ?_
 refine At.region (ops := opt11_2) (m := 7) (k' := kt11_2) (by kernel_rfl) 300 (k'' := pt11_3) (by kernel_rfl) ?_
 refine SOps.pures 7 (i' := 7) (m' := 0) (e' := [(2, .bool false), (17, .bool false), (16, .tuple #[]), (15, .tuple #[]), (14, .tuple #[]), (13, .bool false), (12, .bool false), (3, .int .i64 0), (4, .int .i64 0), (5, .bool false)]) (by intro u; kernel_rfl) ?_
 refine SOps.nil (.inl rfl) ?_
 refine At.pick [2] (e' := [(2, .bool false)]) (by kernel_rfl) ?_
 refine At.ret1 (fn := Try.f11) (v := .bool false) (t := 2) (by kernel_rfl) Try.func11 (by kernel_rfl) (by kernel_rfl) (fun F w ho => ?_)
 exact shutS [0] rfl ho
theorem cycle_fx (b : Nat) : Ctr Try.prog 10 #[.slice (some ⟨b, 0, none⟩) 2 2] [Cells b 35 [.int .i64 2, .int .i64 1, .int .i64 0, .int .i64 4, .int .i64 2, .int .i64 0]] (fun v' => star (fact (v' = .tuple #[.int .i64 4, .bool true]) :: [Cells b 35 [.int .i64 2, .int .i64 1, .int .i64 0, .int .i64 4, .int .i64 2, .int .i64 0]])) false := by
 refine spec_of_at (fn := Try.f10) (c := bd10) (args := [.slice (some ⟨b, 0, none⟩) 2 2]) (n := 29) (e := [(0, .slice (some ⟨b, 0, none⟩) 2 2)]) (k := pt10_0) Try.func10 (by kernel_rfl) (by kernel_rfl) (by kernel_rfl) (by kernel_rfl) 300 (by kernel_rfl) ?_
 refine At.region (ops := opt10_0) (m := 2) (k' := kt10_0) (by kernel_rfl) 300 (k'' := pt10_1) (by kernel_rfl) ?_
 refine SOps.pures 2 (i' := 2) (m' := 0) (e' := [(3, .bool false), (2, .int .i64 0), (0, .slice (some ⟨b, 0, none⟩) 2 2)]) (by intro u; kernel_rfl) ?_
 refine SOps.nil (.inl rfl) ?_
 refine At.pick [0] (e' := [(0, .slice (some ⟨b, 0, none⟩) 2 2)]) (by kernel_rfl) ?_
 refine At.region (ops := opt10_1) (m := 3) (k' := kt10_2) (by kernel_rfl) 300 (k'' := pt10_2) (by kernel_rfl) ?_
 refine SOps.pures 1 (i' := 1) (m' := 2) (e' := [(7, .slice (some ⟨b, 0, none⟩) 2 2), (0, .slice (some ⟨b, 0, none⟩) 2 2)]) (by intro u; kernel_rfl) ?_
 refine SOps.o (Op.callS 8 8 #[.slice (some ⟨b, 0, none⟩) 2 2] (.bool true) [0] (B := [Cells b 35 [.int .i64 2, .int .i64 1, .int .i64 0, .int .i64 4, .int .i64 2, .int .i64 0]]) (D := []) (by intro u; kernel_rfl) (right8 (Cells b 35 [.int .i64 2, .int .i64 1, .int .i64 0, .int .i64 4, .int .i64 2, .int .i64 0]) (some ⟨b, 0, none⟩) [⟨2, 1, 0⟩, ⟨4, 2, 0⟩] 2 2 rfl InB.cells (fun _ => rfl) (by omega)) (by first | exact .inr rfl | exact .inl rfl) (by kernel_rfl) ?_)
 refine SOps.pures 1 (i' := 3) (m' := 0) (e' := [(9, .bool false), (8, .bool true), (7, .slice (some ⟨b, 0, none⟩) 2 2), (0, .slice (some ⟨b, 0, none⟩) 2 2)]) (by intro u; kernel_rfl) ?_
 refine SOps.nil (.inl rfl) ?_
 refine At.pick [0, 9] (e' := [(0, .slice (some ⟨b, 0, none⟩) 2 2), (9, .bool false)]) (by kernel_rfl) ?_
 refine At.cond 300 false (c := .tmp 9) (k1 := pt10_3) (k2 := pt10_4) (by kernel_rfl) (by intro u; kernel_rfl) (fun h => by cases h) (fun _ => ?_)
 refine At.pick [0] (e' := [(0, .slice (some ⟨b, 0, none⟩) 2 2)]) (by kernel_rfl) ?_
 refine At.region (ops := opt10_4) (m := 1) (k' := kt10_4) (by kernel_rfl) 300 (k'' := pt10_6) (by kernel_rfl) ?_
 refine SOps.pures 1 (i' := 1) (m' := 0) (e' := [(4, .int .i64 1), (0, .slice (some ⟨b, 0, none⟩) 2 2)]) (by intro u; kernel_rfl) ?_
 refine SOps.nil (.inl rfl) ?_
 refine At.pick [0, 4] (e' := [(0, .slice (some ⟨b, 0, none⟩) 2 2), (4, .int .i64 1)]) (by kernel_rfl) ?_
 refine At.region (ops := opt10_6) (m := 3) (k' := kt10_6) (by kernel_rfl) 300 (k'' := pt10_7) (by kernel_rfl) ?_
 refine SOps.pures 3 (i' := 3) (m' := 0) (e' := [(12, .int .i64 0), (11, .int .i64 2), (10, .slice (some ⟨b, 0, none⟩) 2 2), (0, .slice (some ⟨b, 0, none⟩) 2 2), (4, .int .i64 1)]) (by intro u; kernel_rfl) ?_
 refine SOps.nil (.inl rfl) ?_
 refine At.pick [4, 10, 11, 12] (e' := [(4, .int .i64 1), (10, .slice (some ⟨b, 0, none⟩) 2 2), (11, .int .i64 2), (12, .int .i64 0)]) (by kernel_rfl) ?_
 refine At.region (ops := opt10_7) (m := 1) (k' := kt10_9) (by kernel_rfl) 300 (k'' := pt10_8) (by kernel_rfl) ?_
 refine SOps.pures 1 (i' := 1) (m' := 0) (e' := [(13, .bool true), (4, .int .i64 1), (10, .slice (some ⟨b, 0, none⟩) 2 2), (11, .int .i64 2), (12, .int .i64 0)]) (by intro u; kernel_rfl) ?_
 refine SOps.nil (.inl rfl) ?_
 refine At.pick [4, 10, 11, 12, 13] (e' := [(4, .int .i64 1), (10, .slice (some ⟨b, 0, none⟩) 2 2), (11, .int .i64 2), (12, .int .i64 0), (13, .bool true)]) (by kernel_rfl) ?_
 refine At.cond 300 true (c := .tmp 13) (k1 := pt10_9) (k2 := pt10_10) (by kernel_rfl) (by intro u; kernel_rfl) (fun _ => ?_) (fun h => by cases h)
 refine At.pick [4, 10, 11, 12] (e' := [(4, .int .i64 1), (10, .slice (some ⟨b, 0, none⟩) 2 2), (11, .int .i64 2), (12, .int .i64 0)]) (by kernel_rfl) ?_
 refine At.region (ops := opt10_9) (m := 4) (k' := kt10_13) (by kernel_rfl) 300 (k'' := pt10_11) (by kernel_rfl) ?_
 refine SOps.v (Val.pv 14 (vN (Instr.indexAt 22 (.slice (some ⟨b, 0, none⟩) 2 2) (.int .i64 0))) (.pointer (some ⟨b, 0, none⟩)) (by intro u; kernel_rfl) (pv_index (el := 35) (sz := 3) (by kernel_rfl) (by kernel_rfl) (by omega) (by omega) (by omega))) ?_
 refine SOps.v (Val.ldN 0 15 35 b 0 3 [.int .i64 2, .int .i64 1, .int .i64 0] rfl (by intro u; kernel_rfl) (by kernel_rfl) (by kernel_rfl) rfl ⟨(Rd.cells rfl), (Rd.cells rfl), (Rd.cells rfl), trivial⟩) ?_
 refine SOps.o (Op.new 6 35 [.int .i64 0, .int .i64 0, .int .i64 0] (fun b => .pointer (some ⟨b, 0, none⟩)) (by intro u b; kernel_rfl) ?_)
 intro bx1
 refine SOps.o (Op.st 0 35 bx1 0 (.agg #[.int .i64 2, .int .i64 1, .int .i64 0]) [.int .i64 2, .int .i64 1, .int .i64 0] 3 (B' := Cells bx1 35 [.int .i64 2, .int .i64 1, .int .i64 0]) (A' := [Cells bx1 35 [.int .i64 2, .int .i64 1, .int .i64 0], Cells b 35 [.int .i64 2, .int .i64 1, .int .i64 0, .int .i64 4, .int .i64 2, .int .i64 0]]) rfl (by intro u; kernel_rfl) rfl (by kernel_rfl) rfl rfl (Wr.cells rfl rfl) rfl ?_)
 refine SOps.nil (.inl rfl) ?_
 refine At.pick [4, 6, 10, 11, 12] (e' := [(4, .int .i64 1), (6, .pointer (some ⟨bx1, 0, none⟩)), (10, .slice (some ⟨b, 0, none⟩) 2 2), (11, .int .i64 2), (12, .int .i64 0)]) (by kernel_rfl) ?_
 refine At.regionQ (ops := opt10_11) (m := 10) (k' := kt10_15) (by kernel_rfl) 300 (k'' := pt10_12) (by kernel_rfl) (by kernel_rfl) (by kernel_rfl) ?_
 refine SOps.pures 3 (i' := 3) (m' := 7) (e' := [(18, .pointer (some ⟨bx1, 0, none⟩)), (17, .int .i64 1), (16, .int .i64 1), (4, .int .i64 1), (6, .pointer (some ⟨bx1, 0, none⟩)), (10, .slice (some ⟨b, 0, none⟩) 2 2), (11, .int .i64 2), (12, .int .i64 0)]) (by intro u; kernel_rfl) ?_
 refine SOps.v (Val.ld1 0 19 3 bx1 0 (.int .i64 2) rfl (by intro u; kernel_rfl) (by kernel_rfl) (Rd.cells rfl)) ?_
 refine SOps.callQ 20 14 #[.int .i64 1, .int .i64 2] (.int .i64 1) [] (B := []) (D := [Cells bx1 35 [.int .i64 2, .int .i64 1, .int .i64 0], Cells b 35 [.int .i64 2, .int .i64 1, .int .i64 0, .int .i64 4, .int .i64 2, .int .i64 0]]) (by intro u; kernel_rfl) (gcdc 1 2 (by omega) (by omega) 1 rfl) (by kernel_rfl) ?_
 refine SOps.pures 2 (i' := 7) (m' := 3) (e' := [(22, .pointer (some ⟨bx1, 0, none⟩)), (21, .int .i64 1), (20, .int .i64 1), (19, .int .i64 2), (18, .pointer (some ⟨bx1, 0, none⟩)), (17, .int .i64 1), (16, .int .i64 1), (4, .int .i64 1), (6, .pointer (some ⟨bx1, 0, none⟩)), (10, .slice (some ⟨b, 0, none⟩) 2 2), (11, .int .i64 2), (12, .int .i64 0)]) (by intro u; kernel_rfl) ?_
 refine SOps.v (Val.ld1 0 23 3 bx1 0 (.int .i64 2) rfl (by intro u; kernel_rfl) (by kernel_rfl) (Rd.cells rfl)) ?_
 refine SOps.pures 2 (i' := 10) (m' := 0) (e' := [(4, .int .i64 2), (24, .int .i64 2), (23, .int .i64 2), (22, .pointer (some ⟨bx1, 0, none⟩)), (21, .int .i64 1), (20, .int .i64 1), (19, .int .i64 2), (18, .pointer (some ⟨bx1, 0, none⟩)), (17, .int .i64 1), (16, .int .i64 1), (4, .int .i64 1), (6, .pointer (some ⟨bx1, 0, none⟩)), (10, .slice (some ⟨b, 0, none⟩) 2 2), (11, .int .i64 2), (12, .int .i64 0)]) (by intro u; kernel_rfl) ?_
 refine SOps.nil (.inr (by kernel_rfl)) ?_
 refine At.pick [4, 10, 11, 12] (e' := [(4, .int .i64 2), (10, .slice (some ⟨b, 0, none⟩) 2 2), (11, .int .i64 2), (12, .int .i64 0)]) (by kernel_rfl) ?_
 refine At.region (ops := opt10_12) (m := 2) (k' := kt10_16) (by kernel_rfl) 300 (k'' := pt10_13) (by kernel_rfl) ?_
 refine SOps.pures 2 (i' := 2) (m' := 0) (e' := [(26, .bool false), (25, .int .i64 2), (4, .int .i64 2), (10, .slice (some ⟨b, 0, none⟩) 2 2), (11, .int .i64 2), (12, .int .i64 0)]) (by intro u; kernel_rfl) ?_
 refine SOps.nil (.inl rfl) ?_
 refine At.pick [4, 10, 11, 12, 26] (e' := [(4, .int .i64 2), (10, .slice (some ⟨b, 0, none⟩) 2 2), (11, .int .i64 2), (12, .int .i64 0), (26, .bool false)]) (by kernel_rfl) ?_
 refine At.cond 300 false (c := .tmp 26) (k1 := pt10_14) (k2 := pt10_15) (by kernel_rfl) (by intro u; kernel_rfl) (fun h => by cases h) (fun _ => ?_)
 refine At.pick [4, 10, 11, 12] (e' := [(4, .int .i64 2), (10, .slice (some ⟨b, 0, none⟩) 2 2), (11, .int .i64 2), (12, .int .i64 0)]) (by kernel_rfl) ?_
 refine At.region (ops := opt10_15) (m := 2) (k' := kt10_8) (by kernel_rfl) 300 (k'' := pt10_7) (by kernel_rfl) ?_
 refine SOps.pures 2 (i' := 2) (m' := 0) (e' := [(12, .int .i64 1), (27, .int .i64 1), (4, .int .i64 2), (10, .slice (some ⟨b, 0, none⟩) 2 2), (11, .int .i64 2), (12, .int .i64 0)]) (by intro u; kernel_rfl) ?_
 refine SOps.nil (.inl rfl) ?_
 refine At.pick [4, 10, 11, 12] (e' := [(4, .int .i64 2), (10, .slice (some ⟨b, 0, none⟩) 2 2), (11, .int .i64 2), (12, .int .i64 1)]) (by kernel_rfl) ?_
 refine At.region (ops := opt10_7) (m := 1) (k' := kt10_9) (by kernel_rfl) 300 (k'' := pt10_8) (by kernel_rfl) ?_
 refine SOps.pures 1 (i' := 1) (m' := 0) (e' := [(13, .bool true), (4, .int .i64 2), (10, .slice (some ⟨b, 0, none⟩) 2 2), (11, .int .i64 2), (12, .int .i64 1)]) (by intro u; kernel_rfl) ?_
 refine SOps.nil (.inl rfl) ?_
 refine At.pick [4, 10, 11, 12, 13] (e' := [(4, .int .i64 2), (10, .slice (some ⟨b, 0, none⟩) 2 2), (11, .int .i64 2), (12, .int .i64 1), (13, .bool true)]) (by kernel_rfl) ?_
 refine At.cond 300 true (c := .tmp 13) (k1 := pt10_9) (k2 := pt10_10) (by kernel_rfl) (by intro u; kernel_rfl) (fun _ => ?_) (fun h => by cases h)
 refine At.pick [4, 10, 11, 12] (e' := [(4, .int .i64 2), (10, .slice (some ⟨b, 0, none⟩) 2 2), (11, .int .i64 2), (12, .int .i64 1)]) (by kernel_rfl) ?_
 refine At.region (ops := opt10_9) (m := 4) (k' := kt10_13) (by kernel_rfl) 300 (k'' := pt10_11) (by kernel_rfl) ?_
 refine SOps.v (Val.pv 14 (vN (Instr.indexAt 22 (.slice (some ⟨b, 0, none⟩) 2 2) (.int .i64 1))) (.pointer (some ⟨b, 3, none⟩)) (by intro u; kernel_rfl) (pv_index (el := 35) (sz := 3) (by kernel_rfl) (by kernel_rfl) (by omega) (by omega) (by omega))) ?_
 refine SOps.v (Val.ldN 1 15 35 b 3 3 [.int .i64 4, .int .i64 2, .int .i64 0] rfl (by intro u; kernel_rfl) (by kernel_rfl) (by kernel_rfl) rfl ⟨(Rd.cells rfl), (Rd.cells rfl), (Rd.cells rfl), trivial⟩) ?_
 refine SOps.o (Op.new 6 35 [.int .i64 0, .int .i64 0, .int .i64 0] (fun b => .pointer (some ⟨b, 0, none⟩)) (by intro u b; kernel_rfl) ?_)
 intro bx2
 refine SOps.o (Op.st 0 35 bx2 0 (.agg #[.int .i64 4, .int .i64 2, .int .i64 0]) [.int .i64 4, .int .i64 2, .int .i64 0] 3 (B' := Cells bx2 35 [.int .i64 4, .int .i64 2, .int .i64 0]) (A' := [Cells bx2 35 [.int .i64 4, .int .i64 2, .int .i64 0], Cells bx1 35 [.int .i64 2, .int .i64 1, .int .i64 0], Cells b 35 [.int .i64 2, .int .i64 1, .int .i64 0, .int .i64 4, .int .i64 2, .int .i64 0]]) rfl (by intro u; kernel_rfl) rfl (by kernel_rfl) rfl rfl (Wr.cells rfl rfl) rfl ?_)
 refine SOps.nil (.inl rfl) ?_
 refine At.pick [4, 6, 10, 11, 12] (e' := [(4, .int .i64 2), (6, .pointer (some ⟨bx2, 0, none⟩)), (10, .slice (some ⟨b, 0, none⟩) 2 2), (11, .int .i64 2), (12, .int .i64 1)]) (by kernel_rfl) ?_
 refine At.regionQ (ops := opt10_11) (m := 10) (k' := kt10_15) (by kernel_rfl) 300 (k'' := pt10_12) (by kernel_rfl) (by kernel_rfl) (by kernel_rfl) ?_
 refine SOps.pures 3 (i' := 3) (m' := 7) (e' := [(18, .pointer (some ⟨bx2, 0, none⟩)), (17, .int .i64 2), (16, .int .i64 2), (4, .int .i64 2), (6, .pointer (some ⟨bx2, 0, none⟩)), (10, .slice (some ⟨b, 0, none⟩) 2 2), (11, .int .i64 2), (12, .int .i64 1)]) (by intro u; kernel_rfl) ?_
 refine SOps.v (Val.ld1 0 19 3 bx2 0 (.int .i64 4) rfl (by intro u; kernel_rfl) (by kernel_rfl) (Rd.cells rfl)) ?_
 refine SOps.callQ 20 14 #[.int .i64 2, .int .i64 4] (.int .i64 2) [] (B := []) (D := [Cells bx2 35 [.int .i64 4, .int .i64 2, .int .i64 0], Cells bx1 35 [.int .i64 2, .int .i64 1, .int .i64 0], Cells b 35 [.int .i64 2, .int .i64 1, .int .i64 0, .int .i64 4, .int .i64 2, .int .i64 0]]) (by intro u; kernel_rfl) (gcdc 2 4 (by omega) (by omega) 2 rfl) (by kernel_rfl) ?_
 refine SOps.pures 2 (i' := 7) (m' := 3) (e' := [(22, .pointer (some ⟨bx2, 0, none⟩)), (21, .int .i64 1), (20, .int .i64 2), (19, .int .i64 4), (18, .pointer (some ⟨bx2, 0, none⟩)), (17, .int .i64 2), (16, .int .i64 2), (4, .int .i64 2), (6, .pointer (some ⟨bx2, 0, none⟩)), (10, .slice (some ⟨b, 0, none⟩) 2 2), (11, .int .i64 2), (12, .int .i64 1)]) (by intro u; kernel_rfl) ?_
 refine SOps.v (Val.ld1 0 23 3 bx2 0 (.int .i64 4) rfl (by intro u; kernel_rfl) (by kernel_rfl) (Rd.cells rfl)) ?_
 refine SOps.pures 2 (i' := 10) (m' := 0) (e' := [(4, .int .i64 4), (24, .int .i64 4), (23, .int .i64 4), (22, .pointer (some ⟨bx2, 0, none⟩)), (21, .int .i64 1), (20, .int .i64 2), (19, .int .i64 4), (18, .pointer (some ⟨bx2, 0, none⟩)), (17, .int .i64 2), (16, .int .i64 2), (4, .int .i64 2), (6, .pointer (some ⟨bx2, 0, none⟩)), (10, .slice (some ⟨b, 0, none⟩) 2 2), (11, .int .i64 2), (12, .int .i64 1)]) (by intro u; kernel_rfl) ?_
 refine SOps.nil (.inr (by kernel_rfl)) ?_
 refine At.pick [4, 10, 11, 12] (e' := [(4, .int .i64 4), (10, .slice (some ⟨b, 0, none⟩) 2 2), (11, .int .i64 2), (12, .int .i64 1)]) (by kernel_rfl) ?_
 refine At.region (ops := opt10_12) (m := 2) (k' := kt10_16) (by kernel_rfl) 300 (k'' := pt10_13) (by kernel_rfl) ?_
 refine SOps.pures 2 (i' := 2) (m' := 0) (e' := [(26, .bool false), (25, .int .i64 4), (4, .int .i64 4), (10, .slice (some ⟨b, 0, none⟩) 2 2), (11, .int .i64 2), (12, .int .i64 1)]) (by intro u; kernel_rfl) ?_
 refine SOps.nil (.inl rfl) ?_
 refine At.pick [4, 10, 11, 12, 26] (e' := [(4, .int .i64 4), (10, .slice (some ⟨b, 0, none⟩) 2 2), (11, .int .i64 2), (12, .int .i64 1), (26, .bool false)]) (by kernel_rfl) ?_
 refine At.cond 300 false (c := .tmp 26) (k1 := pt10_14) (k2 := pt10_15) (by kernel_rfl) (by intro u; kernel_rfl) (fun h => by cases h) (fun _ => ?_)
 refine At.pick [4, 10, 11, 12] (e' := [(4, .int .i64 4), (10, .slice (some ⟨b, 0, none⟩) 2 2), (11, .int .i64 2), (12, .int .i64 1)]) (by kernel_rfl) ?_
 refine At.region (ops := opt10_15) (m := 2) (k' := kt10_8) (by kernel_rfl) 300 (k'' := pt10_7) (by kernel_rfl) ?_
 refine SOps.pures 2 (i' := 2) (m' := 0) (e' := [(12, .int .i64 2), (27, .int .i64 2), (4, .int .i64 4), (10, .slice (some ⟨b, 0, none⟩) 2 2), (11, .int .i64 2), (12, .int .i64 1)]) (by intro u; kernel_rfl) ?_
 refine SOps.nil (.inl rfl) ?_
 refine At.pick [4, 10, 11, 12] (e' := [(4, .int .i64 4), (10, .slice (some ⟨b, 0, none⟩) 2 2), (11, .int .i64 2), (12, .int .i64 2)]) (by kernel_rfl) ?_
 refine At.region (ops := opt10_7) (m := 1) (k' := kt10_9) (by kernel_rfl) 300 (k'' := pt10_8) (by kernel_rfl) ?_
 refine SOps.pures 1 (i' := 1) (m' := 0) (e' := [(13, .bool false), (4, .int .i64 4), (10, .slice (some ⟨b, 0, none⟩) 2 2), (11, .int .i64 2), (12, .int .i64 2)]) (by intro u; kernel_rfl) ?_
 refine SOps.nil (.inl rfl) ?_
 refine At.pick [4, 10, 11, 12, 13] (e' := [(4, .int .i64 4), (10, .slice (some ⟨b, 0, none⟩) 2 2), (11, .int .i64 2), (12, .int .i64 2), (13, .bool false)]) (by kernel_rfl) ?_
 refine At.cond 300 false (c := .tmp 13) (k1 := pt10_9) (k2 := pt10_10) (by kernel_rfl) (by intro u; kernel_rfl) (fun h => by cases h) (fun _ => ?_)
 refine At.pick [4] (e' := [(4, .int .i64 4)]) (by kernel_rfl) ?_
 refine At.region (ops := opt10_10) (m := 3) (k' := kt10_14) (by kernel_rfl) 300 (k'' := pt10_16) (by kernel_rfl) ?_
 refine SOps.pures 3 (i' := 3) (m' := 0) (e' := [(3, .bool true), (2, .int .i64 4), (28, .int .i64 4), (4, .int .i64 4)]) (by intro u; kernel_rfl) ?_
 refine SOps.nil (.inl rfl) ?_
 refine At.pick [2, 3] (e' := [(2, .int .i64 4), (3, .bool true)]) (by kernel_rfl) ?_
 refine At.ret2 (fn := Try.f10) (v := .int .i64 4) (u := .bool true) (t := 2) (s := 3) (by kernel_rfl) Try.func10 (by kernel_rfl) (by kernel_rfl) (by kernel_rfl) (fun F w ho => ?_)
 exact shutS [2] rfl ho
theorem load_fx (b : Nat) : Ctr Try.prog 12 #[.slice (some ⟨b, 0, none⟩) 2 2] [Cells b 35 [.int .i64 2, .int .i64 1, .int .i64 0, .int .i64 4, .int .i64 2, .int .i64 0]] (fun v' => star (fact (v' = .tuple #[.int .i64 4, .int .i64 4, .bool true]) :: [Cells b 35 [.int .i64 2, .int .i64 1, .int .i64 0, .int .i64 4, .int .i64 2, .int .i64 0]])) false := by
 refine spec_of_at (fn := Try.f12) (c := bd12) (args := [.slice (some ⟨b, 0, none⟩) 2 2]) (n := 32) (e := [(0, .slice (some ⟨b, 0, none⟩) 2 2)]) (k := pt12_0) Try.func12 (by kernel_rfl) (by kernel_rfl) (by kernel_rfl) (by kernel_rfl) 300 (by kernel_rfl) ?_
 refine At.region (ops := opt12_0) (m := 3) (k' := kt12_0) (by kernel_rfl) 300 (k'' := pt12_1) (by kernel_rfl) ?_
 refine SOps.pures 3 (i' := 3) (m' := 0) (e' := [(4, .bool false), (3, .int .i64 0), (2, .int .i64 0), (0, .slice (some ⟨b, 0, none⟩) 2 2)]) (by intro u; kernel_rfl) ?_
 refine SOps.nil (.inl rfl) ?_
 refine At.pick [0, 2] (e' := [(0, .slice (some ⟨b, 0, none⟩) 2 2), (2, .int .i64 0)]) (by kernel_rfl) ?_
 refine At.region (ops := opt12_1) (m := 7) (k' := kt12_1) (by kernel_rfl) 300 (k'' := pt12_2) (by kernel_rfl) ?_
 refine SOps.pures 1 (i' := 1) (m' := 6) (e' := [(8, .slice (some ⟨b, 0, none⟩) 2 2), (0, .slice (some ⟨b, 0, none⟩) 2 2), (2, .int .i64 0)]) (by intro u; kernel_rfl) ?_
 refine SOps.o (Op.callS 9 10 #[.slice (some ⟨b, 0, none⟩) 2 2] (.tuple #[.int .i64 4, .bool true]) [0] (B := [Cells b 35 [.int .i64 2, .int .i64 1, .int .i64 0, .int .i64 4, .int .i64 2, .int .i64 0]]) (D := []) (by intro u; kernel_rfl) (cycle_fx b) (by first | exact .inr rfl | exact .inl rfl) (by kernel_rfl) ?_)
 refine SOps.pures 5 (i' := 7) (m' := 0) (e' := [(4, .bool true), (3, .int .i64 4), (11, .bool true), (10, .int .i64 4), (7, .tuple #[.int .i64 4, .bool true]), (9, .tuple #[.int .i64 4, .bool true]), (8, .slice (some ⟨b, 0, none⟩) 2 2), (0, .slice (some ⟨b, 0, none⟩) 2 2), (2, .int .i64 0)]) (by intro u; kernel_rfl) ?_
 refine SOps.nil (.inl rfl) ?_
 refine At.pick [0, 2, 3, 4] (e' := [(0, .slice (some ⟨b, 0, none⟩) 2 2), (2, .int .i64 0), (3, .int .i64 4), (4, .bool true)]) (by kernel_rfl) ?_
 refine At.region (ops := opt12_2) (m := 2) (k' := kt12_3) (by kernel_rfl) 300 (k'' := pt12_3) (by kernel_rfl) ?_
 refine SOps.pures 2 (i' := 2) (m' := 0) (e' := [(13, .bool false), (12, .bool true), (0, .slice (some ⟨b, 0, none⟩) 2 2), (2, .int .i64 0), (3, .int .i64 4), (4, .bool true)]) (by intro u; kernel_rfl) ?_
 refine SOps.nil (.inl rfl) ?_
 refine At.pick [0, 2, 3, 13] (e' := [(0, .slice (some ⟨b, 0, none⟩) 2 2), (2, .int .i64 0), (3, .int .i64 4), (13, .bool false)]) (by kernel_rfl) ?_
 refine At.cond 300 false (c := .tmp 13) (k1 := pt12_4) (k2 := pt12_5) (by kernel_rfl) (by intro u; kernel_rfl) (fun h => by cases h) (fun _ => ?_)
 refine At.pick [0, 2, 3] (e' := [(0, .slice (some ⟨b, 0, none⟩) 2 2), (2, .int .i64 0), (3, .int .i64 4)]) (by kernel_rfl) ?_
 refine At.region (ops := opt12_5) (m := 3) (k' := kt12_6) (by kernel_rfl) 300 (k'' := pt12_7) (by kernel_rfl) ?_
 refine SOps.pures 3 (i' := 3) (m' := 0) (e' := [(16, .int .i64 0), (15, .int .i64 2), (14, .slice (some ⟨b, 0, none⟩) 2 2), (0, .slice (some ⟨b, 0, none⟩) 2 2), (2, .int .i64 0), (3, .int .i64 4)]) (by intro u; kernel_rfl) ?_
 refine SOps.nil (.inl rfl) ?_
 refine At.pick [2, 3, 14, 15, 16] (e' := [(2, .int .i64 0), (3, .int .i64 4), (14, .slice (some ⟨b, 0, none⟩) 2 2), (15, .int .i64 2), (16, .int .i64 0)]) (by kernel_rfl) ?_
 refine At.region (ops := opt12_7) (m := 1) (k' := kt12_9) (by kernel_rfl) 300 (k'' := pt12_8) (by kernel_rfl) ?_
 refine SOps.pures 1 (i' := 1) (m' := 0) (e' := [(17, .bool true), (2, .int .i64 0), (3, .int .i64 4), (14, .slice (some ⟨b, 0, none⟩) 2 2), (15, .int .i64 2), (16, .int .i64 0)]) (by intro u; kernel_rfl) ?_
 refine SOps.nil (.inl rfl) ?_
 refine At.pick [2, 3, 14, 15, 16, 17] (e' := [(2, .int .i64 0), (3, .int .i64 4), (14, .slice (some ⟨b, 0, none⟩) 2 2), (15, .int .i64 2), (16, .int .i64 0), (17, .bool true)]) (by kernel_rfl) ?_
 refine At.cond 300 true (c := .tmp 17) (k1 := pt12_9) (k2 := pt12_10) (by kernel_rfl) (by intro u; kernel_rfl) (fun _ => ?_) (fun h => by cases h)
 refine At.pick [2, 3, 14, 15, 16] (e' := [(2, .int .i64 0), (3, .int .i64 4), (14, .slice (some ⟨b, 0, none⟩) 2 2), (15, .int .i64 2), (16, .int .i64 0)]) (by kernel_rfl) ?_
 refine At.region (ops := opt12_9) (m := 4) (k' := kt12_13) (by kernel_rfl) 300 (k'' := pt12_11) (by kernel_rfl) ?_
 refine SOps.v (Val.pv 18 (vN (Instr.indexAt 22 (.slice (some ⟨b, 0, none⟩) 2 2) (.int .i64 0))) (.pointer (some ⟨b, 0, none⟩)) (by intro u; kernel_rfl) (pv_index (el := 35) (sz := 3) (by kernel_rfl) (by kernel_rfl) (by omega) (by omega) (by omega))) ?_
 refine SOps.v (Val.ldN 0 19 35 b 0 3 [.int .i64 2, .int .i64 1, .int .i64 0] rfl (by intro u; kernel_rfl) (by kernel_rfl) (by kernel_rfl) rfl ⟨(Rd.cells rfl), (Rd.cells rfl), (Rd.cells rfl), trivial⟩) ?_
 refine SOps.o (Op.new 6 35 [.int .i64 0, .int .i64 0, .int .i64 0] (fun b => .pointer (some ⟨b, 0, none⟩)) (by intro u b; kernel_rfl) ?_)
 intro bx1
 refine SOps.o (Op.st 0 35 bx1 0 (.agg #[.int .i64 2, .int .i64 1, .int .i64 0]) [.int .i64 2, .int .i64 1, .int .i64 0] 3 (B' := Cells bx1 35 [.int .i64 2, .int .i64 1, .int .i64 0]) (A' := [Cells bx1 35 [.int .i64 2, .int .i64 1, .int .i64 0], Cells b 35 [.int .i64 2, .int .i64 1, .int .i64 0, .int .i64 4, .int .i64 2, .int .i64 0]]) rfl (by intro u; kernel_rfl) rfl (by kernel_rfl) rfl rfl (Wr.cells rfl rfl) rfl ?_)
 refine SOps.nil (.inl rfl) ?_
 refine At.pick [2, 3, 6, 14, 15, 16] (e' := [(2, .int .i64 0), (3, .int .i64 4), (6, .pointer (some ⟨bx1, 0, none⟩)), (14, .slice (some ⟨b, 0, none⟩) 2 2), (15, .int .i64 2), (16, .int .i64 0)]) (by kernel_rfl) ?_
 refine At.regionQ (ops := opt12_11) (m := 10) (k' := kt12_12) (by kernel_rfl) 300 (k'' := pt12_12) (by kernel_rfl) (by kernel_rfl) (by kernel_rfl) ?_
 refine SOps.pures 3 (i' := 3) (m' := 7) (e' := [(22, .pointer (some ⟨bx1, 0, none⟩)), (21, .int .i64 4), (20, .int .i64 0), (2, .int .i64 0), (3, .int .i64 4), (6, .pointer (some ⟨bx1, 0, none⟩)), (14, .slice (some ⟨b, 0, none⟩) 2 2), (15, .int .i64 2), (16, .int .i64 0)]) (by intro u; kernel_rfl) ?_
 refine SOps.v (Val.ld1 0 23 3 bx1 0 (.int .i64 2) rfl (by intro u; kernel_rfl) (by kernel_rfl) (Rd.cells rfl)) ?_
 refine SOps.pures 2 (i' := 6) (m' := 4) (e' := [(25, .pointer (some ⟨bx1, 1, none⟩)), (24, .int .i64 2), (23, .int .i64 2), (22, .pointer (some ⟨bx1, 0, none⟩)), (21, .int .i64 4), (20, .int .i64 0), (2, .int .i64 0), (3, .int .i64 4), (6, .pointer (some ⟨bx1, 0, none⟩)), (14, .slice (some ⟨b, 0, none⟩) 2 2), (15, .int .i64 2), (16, .int .i64 0)]) (by intro u; kernel_rfl) ?_
 refine SOps.v (Val.ld1 0 26 3 bx1 1 (.int .i64 1) rfl (by intro u; kernel_rfl) (by kernel_rfl) (Rd.cells rfl)) ?_
 refine SOps.pures 3 (i' := 10) (m' := 0) (e' := [(2, .int .i64 2), (28, .int .i64 2), (27, .int .i64 2), (26, .int .i64 1), (25, .pointer (some ⟨bx1, 1, none⟩)), (24, .int .i64 2), (23, .int .i64 2), (22, .pointer (some ⟨bx1, 0, none⟩)), (21, .int .i64 4), (20, .int .i64 0), (2, .int .i64 0), (3, .int .i64 4), (6, .pointer (some ⟨bx1, 0, none⟩)), (14, .slice (some ⟨b, 0, none⟩) 2 2), (15, .int .i64 2), (16, .int .i64 0)]) (by intro u; kernel_rfl) ?_
 refine SOps.nil (.inr (by kernel_rfl)) ?_
 refine At.pick [2, 3, 14, 15, 16] (e' := [(2, .int .i64 2), (3, .int .i64 4), (14, .slice (some ⟨b, 0, none⟩) 2 2), (15, .int .i64 2), (16, .int .i64 0)]) (by kernel_rfl) ?_
 refine At.region (ops := opt12_12) (m := 2) (k' := kt12_8) (by kernel_rfl) 300 (k'' := pt12_7) (by kernel_rfl) ?_
 refine SOps.pures 2 (i' := 2) (m' := 0) (e' := [(16, .int .i64 1), (29, .int .i64 1), (2, .int .i64 2), (3, .int .i64 4), (14, .slice (some ⟨b, 0, none⟩) 2 2), (15, .int .i64 2), (16, .int .i64 0)]) (by intro u; kernel_rfl) ?_
 refine SOps.nil (.inl rfl) ?_
 refine At.pick [2, 3, 14, 15, 16] (e' := [(2, .int .i64 2), (3, .int .i64 4), (14, .slice (some ⟨b, 0, none⟩) 2 2), (15, .int .i64 2), (16, .int .i64 1)]) (by kernel_rfl) ?_
 refine At.region (ops := opt12_7) (m := 1) (k' := kt12_9) (by kernel_rfl) 300 (k'' := pt12_8) (by kernel_rfl) ?_
 refine SOps.pures 1 (i' := 1) (m' := 0) (e' := [(17, .bool true), (2, .int .i64 2), (3, .int .i64 4), (14, .slice (some ⟨b, 0, none⟩) 2 2), (15, .int .i64 2), (16, .int .i64 1)]) (by intro u; kernel_rfl) ?_
 refine SOps.nil (.inl rfl) ?_
 refine At.pick [2, 3, 14, 15, 16, 17] (e' := [(2, .int .i64 2), (3, .int .i64 4), (14, .slice (some ⟨b, 0, none⟩) 2 2), (15, .int .i64 2), (16, .int .i64 1), (17, .bool true)]) (by kernel_rfl) ?_
 refine At.cond 300 true (c := .tmp 17) (k1 := pt12_9) (k2 := pt12_10) (by kernel_rfl) (by intro u; kernel_rfl) (fun _ => ?_) (fun h => by cases h)
 refine At.pick [2, 3, 14, 15, 16] (e' := [(2, .int .i64 2), (3, .int .i64 4), (14, .slice (some ⟨b, 0, none⟩) 2 2), (15, .int .i64 2), (16, .int .i64 1)]) (by kernel_rfl) ?_
 refine At.region (ops := opt12_9) (m := 4) (k' := kt12_13) (by kernel_rfl) 300 (k'' := pt12_11) (by kernel_rfl) ?_
 refine SOps.v (Val.pv 18 (vN (Instr.indexAt 22 (.slice (some ⟨b, 0, none⟩) 2 2) (.int .i64 1))) (.pointer (some ⟨b, 3, none⟩)) (by intro u; kernel_rfl) (pv_index (el := 35) (sz := 3) (by kernel_rfl) (by kernel_rfl) (by omega) (by omega) (by omega))) ?_
 refine SOps.v (Val.ldN 1 19 35 b 3 3 [.int .i64 4, .int .i64 2, .int .i64 0] rfl (by intro u; kernel_rfl) (by kernel_rfl) (by kernel_rfl) rfl ⟨(Rd.cells rfl), (Rd.cells rfl), (Rd.cells rfl), trivial⟩) ?_
 refine SOps.o (Op.new 6 35 [.int .i64 0, .int .i64 0, .int .i64 0] (fun b => .pointer (some ⟨b, 0, none⟩)) (by intro u b; kernel_rfl) ?_)
 intro bx2
 refine SOps.o (Op.st 0 35 bx2 0 (.agg #[.int .i64 4, .int .i64 2, .int .i64 0]) [.int .i64 4, .int .i64 2, .int .i64 0] 3 (B' := Cells bx2 35 [.int .i64 4, .int .i64 2, .int .i64 0]) (A' := [Cells bx2 35 [.int .i64 4, .int .i64 2, .int .i64 0], Cells bx1 35 [.int .i64 2, .int .i64 1, .int .i64 0], Cells b 35 [.int .i64 2, .int .i64 1, .int .i64 0, .int .i64 4, .int .i64 2, .int .i64 0]]) rfl (by intro u; kernel_rfl) rfl (by kernel_rfl) rfl rfl (Wr.cells rfl rfl) rfl ?_)
 refine SOps.nil (.inl rfl) ?_
 refine At.pick [2, 3, 6, 14, 15, 16] (e' := [(2, .int .i64 2), (3, .int .i64 4), (6, .pointer (some ⟨bx2, 0, none⟩)), (14, .slice (some ⟨b, 0, none⟩) 2 2), (15, .int .i64 2), (16, .int .i64 1)]) (by kernel_rfl) ?_
 refine At.regionQ (ops := opt12_11) (m := 10) (k' := kt12_12) (by kernel_rfl) 300 (k'' := pt12_12) (by kernel_rfl) (by kernel_rfl) (by kernel_rfl) ?_
 refine SOps.pures 3 (i' := 3) (m' := 7) (e' := [(22, .pointer (some ⟨bx2, 0, none⟩)), (21, .int .i64 4), (20, .int .i64 2), (2, .int .i64 2), (3, .int .i64 4), (6, .pointer (some ⟨bx2, 0, none⟩)), (14, .slice (some ⟨b, 0, none⟩) 2 2), (15, .int .i64 2), (16, .int .i64 1)]) (by intro u; kernel_rfl) ?_
 refine SOps.v (Val.ld1 0 23 3 bx2 0 (.int .i64 4) rfl (by intro u; kernel_rfl) (by kernel_rfl) (Rd.cells rfl)) ?_
 refine SOps.pures 2 (i' := 6) (m' := 4) (e' := [(25, .pointer (some ⟨bx2, 1, none⟩)), (24, .int .i64 1), (23, .int .i64 4), (22, .pointer (some ⟨bx2, 0, none⟩)), (21, .int .i64 4), (20, .int .i64 2), (2, .int .i64 2), (3, .int .i64 4), (6, .pointer (some ⟨bx2, 0, none⟩)), (14, .slice (some ⟨b, 0, none⟩) 2 2), (15, .int .i64 2), (16, .int .i64 1)]) (by intro u; kernel_rfl) ?_
 refine SOps.v (Val.ld1 0 26 3 bx2 1 (.int .i64 2) rfl (by intro u; kernel_rfl) (by kernel_rfl) (Rd.cells rfl)) ?_
 refine SOps.pures 3 (i' := 10) (m' := 0) (e' := [(2, .int .i64 4), (28, .int .i64 4), (27, .int .i64 2), (26, .int .i64 2), (25, .pointer (some ⟨bx2, 1, none⟩)), (24, .int .i64 1), (23, .int .i64 4), (22, .pointer (some ⟨bx2, 0, none⟩)), (21, .int .i64 4), (20, .int .i64 2), (2, .int .i64 2), (3, .int .i64 4), (6, .pointer (some ⟨bx2, 0, none⟩)), (14, .slice (some ⟨b, 0, none⟩) 2 2), (15, .int .i64 2), (16, .int .i64 1)]) (by intro u; kernel_rfl) ?_
 refine SOps.nil (.inr (by kernel_rfl)) ?_
 refine At.pick [2, 3, 14, 15, 16] (e' := [(2, .int .i64 4), (3, .int .i64 4), (14, .slice (some ⟨b, 0, none⟩) 2 2), (15, .int .i64 2), (16, .int .i64 1)]) (by kernel_rfl) ?_
 refine At.region (ops := opt12_12) (m := 2) (k' := kt12_8) (by kernel_rfl) 300 (k'' := pt12_7) (by kernel_rfl) ?_
 refine SOps.pures 2 (i' := 2) (m' := 0) (e' := [(16, .int .i64 2), (29, .int .i64 2), (2, .int .i64 4), (3, .int .i64 4), (14, .slice (some ⟨b, 0, none⟩) 2 2), (15, .int .i64 2), (16, .int .i64 1)]) (by intro u; kernel_rfl) ?_
 refine SOps.nil (.inl rfl) ?_
 refine At.pick [2, 3, 14, 15, 16] (e' := [(2, .int .i64 4), (3, .int .i64 4), (14, .slice (some ⟨b, 0, none⟩) 2 2), (15, .int .i64 2), (16, .int .i64 2)]) (by kernel_rfl) ?_
 refine At.region (ops := opt12_7) (m := 1) (k' := kt12_9) (by kernel_rfl) 300 (k'' := pt12_8) (by kernel_rfl) ?_
 refine SOps.pures 1 (i' := 1) (m' := 0) (e' := [(17, .bool false), (2, .int .i64 4), (3, .int .i64 4), (14, .slice (some ⟨b, 0, none⟩) 2 2), (15, .int .i64 2), (16, .int .i64 2)]) (by intro u; kernel_rfl) ?_
 refine SOps.nil (.inl rfl) ?_
 refine At.pick [2, 3, 14, 15, 16, 17] (e' := [(2, .int .i64 4), (3, .int .i64 4), (14, .slice (some ⟨b, 0, none⟩) 2 2), (15, .int .i64 2), (16, .int .i64 2), (17, .bool false)]) (by kernel_rfl) ?_
 refine At.cond 300 false (c := .tmp 17) (k1 := pt12_9) (k2 := pt12_10) (by kernel_rfl) (by intro u; kernel_rfl) (fun h => by cases h) (fun _ => ?_)
 refine At.pick [2, 3] (e' := [(2, .int .i64 4), (3, .int .i64 4)]) (by kernel_rfl) ?_
 refine At.region (ops := opt12_10) (m := 5) (k' := kt12_14) (by kernel_rfl) 300 (k'' := pt12_13) (by kernel_rfl) ?_
 refine SOps.pures 5 (i' := 5) (m' := 0) (e' := [(4, .bool true), (3, .int .i64 4), (2, .int .i64 4), (31, .int .i64 4), (30, .int .i64 4), (2, .int .i64 4), (3, .int .i64 4)]) (by intro u; kernel_rfl) ?_
 refine SOps.nil (.inl rfl) ?_
 refine At.pick [2, 3, 4] (e' := [(2, .int .i64 4), (3, .int .i64 4), (4, .bool true)]) (by kernel_rfl) ?_
 refine At.ret3 (fn := Try.f12) (v := .int .i64 4) (u := .int .i64 4) (x := .bool true) (t := 2) (s := 3) (r := 4) (by kernel_rfl) Try.func12 (by kernel_rfl) (by kernel_rfl) (by kernel_rfl) (by kernel_rfl) (fun F w ho => ?_)
 exact shutS [2] rfl ho
theorem fits_fx (b : Nat) : Ctr Try.prog 11 #[.slice (some ⟨b, 0, none⟩) 2 2] [Cells b 35 [.int .i64 2, .int .i64 1, .int .i64 0, .int .i64 4, .int .i64 2, .int .i64 0]] (fun v' => star (fact (v' = .bool true) :: [Cells b 35 [.int .i64 2, .int .i64 1, .int .i64 0, .int .i64 4, .int .i64 2, .int .i64 0]])) false := by
 refine spec_of_at (fn := Try.f11) (c := bd11) (args := [.slice (some ⟨b, 0, none⟩) 2 2]) (n := 18) (e := [(0, .slice (some ⟨b, 0, none⟩) 2 2)]) (k := pt11_0) Try.func11 (by kernel_rfl) (by kernel_rfl) (by kernel_rfl) (by kernel_rfl) 300 (by kernel_rfl) ?_
 refine At.region (ops := opt11_0) (m := 1) (k' := kt11_0) (by kernel_rfl) 300 (k'' := pt11_1) (by kernel_rfl) ?_
 refine SOps.pures 1 (i' := 1) (m' := 0) (e' := [(2, .bool false), (0, .slice (some ⟨b, 0, none⟩) 2 2)]) (by intro u; kernel_rfl) ?_
 refine SOps.nil (.inl rfl) ?_
 refine At.pick [0] (e' := [(0, .slice (some ⟨b, 0, none⟩) 2 2)]) (by kernel_rfl) ?_
 refine At.region (ops := opt11_1) (m := 9) (k' := kt11_1) (by kernel_rfl) 300 (k'' := pt11_2) (by kernel_rfl) ?_
 refine SOps.pures 1 (i' := 1) (m' := 8) (e' := [(7, .slice (some ⟨b, 0, none⟩) 2 2), (0, .slice (some ⟨b, 0, none⟩) 2 2)]) (by intro u; kernel_rfl) ?_
 refine SOps.o (Op.callS 8 12 #[.slice (some ⟨b, 0, none⟩) 2 2] (.tuple #[.int .i64 4, .int .i64 4, .bool true]) [0] (B := [Cells b 35 [.int .i64 2, .int .i64 1, .int .i64 0, .int .i64 4, .int .i64 2, .int .i64 0]]) (D := []) (by intro u; kernel_rfl) (load_fx b) (by first | exact .inr rfl | exact .inl rfl) (by kernel_rfl) ?_)
 refine SOps.pures 7 (i' := 9) (m' := 0) (e' := [(5, .bool true), (4, .int .i64 4), (3, .int .i64 4), (11, .bool true), (10, .int .i64 4), (9, .int .i64 4), (6, .tuple #[.int .i64 4, .int .i64 4, .bool true]), (8, .tuple #[.int .i64 4, .int .i64 4, .bool true]), (7, .slice (some ⟨b, 0, none⟩) 2 2), (0, .slice (some ⟨b, 0, none⟩) 2 2)]) (by intro u; kernel_rfl) ?_
 refine SOps.nil (.inl rfl) ?_
 refine At.pick [3, 4, 5] (e' := [(3, .int .i64 4), (4, .int .i64 4), (5, .bool true)]) (by kernel_rfl) ?_
 refine At.region (ops := opt11_2) (m := 7) (k' := kt11_2) (by kernel_rfl) 300 (k'' := pt11_3) (by kernel_rfl) ?_
 refine SOps.pures 7 (i' := 7) (m' := 0) (e' := [(2, .bool true), (17, .bool true), (16, .bool true), (15, .int .i64 4), (14, .int .i64 4), (13, .bool true), (12, .bool true), (3, .int .i64 4), (4, .int .i64 4), (5, .bool true)]) (by intro u; kernel_rfl) ?_
 refine SOps.nil (.inl rfl) ?_
 refine At.pick [2] (e' := [(2, .bool true)]) (by kernel_rfl) ?_
 refine At.ret1 (fn := Try.f11) (v := .bool true) (t := 2) (by kernel_rfl) Try.func11 (by kernel_rfl) (by kernel_rfl) (fun F w ho => ?_)
 exact shutS [0] rfl ho
noncomputable def bd6 : Code := (Try.f6.body).getD .skip
noncomputable def kt6_0 : List Item := .code (pick [1] bd6) :: []
noncomputable def pt6_0 : List Item := .code (pick [0] bd6) :: kt6_0
noncomputable def opt6_0 : Array Oper := opsOf (pick [0] bd6)
noncomputable def kt6_1 : List Item := .code (pick [1, 1] bd6) :: []
noncomputable def pt6_1 : List Item := .code (pick [1, 0] bd6) :: kt6_1
noncomputable def opt6_1 : Array Oper := opsOf (pick [1, 0] bd6)
noncomputable def kt6_2 : List Item := .code (pick [1, 1, 1] bd6) :: []
noncomputable def pt6_2 : List Item := .code (pick [1, 1, 0] bd6) :: kt6_2
noncomputable def opt6_2 : Array Oper := opsOf (pick [1, 1, 0] bd6)
noncomputable def kt6_3 : List Item := .code (pick [1, 1, 1, 1] bd6) :: []
noncomputable def pt6_3 : List Item := .code (pick [1, 1, 1, 0] bd6) :: kt6_3
noncomputable def opt6_3 : Array Oper := opsOf (pick [1, 1, 1, 0] bd6)
noncomputable def kt6_4 : List Item := .code (pick [1, 1, 1, 1, 1] bd6) :: []
noncomputable def pt6_4 : List Item := .code (pick [1, 1, 1, 1, 0] bd6) :: kt6_4
noncomputable def opt6_4 : Array Oper := opsOf (pick [1, 1, 1, 1, 0] bd6)
noncomputable def kt6_5 : List Item := .code (pick [1, 1, 1, 1, 1, 1] bd6) :: []
noncomputable def pt6_5 : List Item := .code (pick [1, 1, 1, 1, 1, 0] bd6) :: kt6_5
noncomputable def opt6_5 : Array Oper := opsOf (pick [1, 1, 1, 1, 1, 0] bd6)
noncomputable def pt6_6 : List Item := .code (pick [1, 1, 1, 1, 1, 1] bd6) :: []
theorem fixedc  : Ctr Try.prog 6 #[] [] (fun v' => star (fact (v' = .bool true) :: [])) false := by
 refine spec_of_at (fn := Try.f6) (c := bd6) (args := []) (n := 95) (e := []) (k := pt6_0) Try.func6 (by kernel_rfl) (by kernel_rfl) (by kernel_rfl) (by kernel_rfl) 300 (by kernel_rfl) ?_
 refine At.region (ops := opt6_0) (m := 1) (k' := kt6_0) (by kernel_rfl) 300 (k'' := pt6_1) (by kernel_rfl) ?_
 refine SOps.pures 1 (i' := 1) (m' := 0) (e' := [(0, .bool false)]) (by intro u; kernel_rfl) ?_
 refine SOps.nil (.inl rfl) ?_
 refine At.pick [] (e' := []) (by kernel_rfl) ?_
 refine At.region (ops := opt6_1) (m := 4) (k' := kt6_1) (by kernel_rfl) 300 (k'' := pt6_2) (by kernel_rfl) ?_
 refine SOps.pures 2 (i' := 2) (m' := 2) (e' := [(9, .agg #[.int .i64 4, .int .i64 2, .int .i64 0]), (8, .agg #[.int .i64 2, .int .i64 1, .int .i64 0])]) (by intro u; kernel_rfl) ?_
 refine SOps.o (Op.new 10 35 [.int .i64 2, .int .i64 1, .int .i64 0, .int .i64 4, .int .i64 2, .int .i64 0] (fun b => .slice (some ⟨b, 0, none⟩) 2 2) (by intro u b; kernel_rfl) ?_)
 intro bx1
 refine SOps.pures 1 (i' := 4) (m' := 0) (e' := [(1, .slice (some ⟨bx1, 0, none⟩) 2 2), (10, .slice (some ⟨bx1, 0, none⟩) 2 2), (9, .agg #[.int .i64 4, .int .i64 2, .int .i64 0]), (8, .agg #[.int .i64 2, .int .i64 1, .int .i64 0])]) (by intro u; kernel_rfl) ?_
 refine SOps.nil (.inl rfl) ?_
 refine At.pick [1] (e' := [(1, .slice (some ⟨bx1, 0, none⟩) 2 2)]) (by kernel_rfl) ?_
 refine At.region (ops := opt6_2) (m := 4) (k' := kt6_2) (by kernel_rfl) 300 (k'' := pt6_3) (by kernel_rfl) ?_
 refine SOps.pures 1 (i' := 1) (m' := 3) (e' := [(11, .slice (some ⟨bx1, 0, none⟩) 2 2), (1, .slice (some ⟨bx1, 0, none⟩) 2 2)]) (by intro u; kernel_rfl) ?_
 refine SOps.o (Op.callX 12 7 #[.slice (some ⟨bx1, 0, none⟩) 2 2, .int .i64 8] _ _ [0] (B := [Cells bx1 35 [.int .i64 2, .int .i64 1, .int .i64 0, .int .i64 4, .int .i64 2, .int .i64 0]]) (D := []) (by intro u; kernel_rfl) (play_yes (Cells bx1 35 [.int .i64 2, .int .i64 1, .int .i64 0, .int .i64 4, .int .i64 2, .int .i64 0]) (some ⟨bx1, 0, none⟩) [⟨2, 1, 0⟩, ⟨4, 2, 0⟩] 2 2 rfl InB.cells (fun _ => rfl) (by omega) 8 (by decide +kernel) ⟨[0, 0], [8, 8], [0, 0], [0, 1, 0, 1, 0, 1, 0, 1], 0⟩ (by kernel_rfl)) (by first | exact .inr rfl | exact .inl rfl) (by kernel_rfl) ?_)
 rintro ⟨Sx2, cx3, gx4⟩ -
 refine SOps.o (Op.new 2 26 [.slice none 0 0, .slice none 0 0, .int .i64 0] (fun b => .pointer (some ⟨b, 0, none⟩)) (by intro u b; kernel_rfl) ?_)
 intro bx5
 refine SOps.o (Op.st 0 26 bx5 0 (.agg #[.slice Sx2 8 cx3, .slice (some ⟨gx4, 0, none⟩) 2 2, .int .i64 0]) [.slice Sx2 8 cx3, .slice (some ⟨gx4, 0, none⟩) 2 2, .int .i64 0] 3 (B' := Cells bx5 26 [.slice Sx2 8 cx3, .slice (some ⟨gx4, 0, none⟩) 2 2, .int .i64 0]) (A' := [Cells bx5 26 [.slice Sx2 8 cx3, .slice (some ⟨gx4, 0, none⟩) 2 2, .int .i64 0], Grow Sx2 cx3 3 1 8 (ints ([0, 1, 0, 1, 0, 1, 0, 1] : List Int)), Grow (some ⟨gx4, 0, none⟩) 2 3 1 2 (ints ([0, 0] : List Int)), Cells bx1 35 [.int .i64 2, .int .i64 1, .int .i64 0, .int .i64 4, .int .i64 2, .int .i64 0]]) rfl (by intro u; kernel_rfl) rfl (by kernel_rfl) rfl rfl (Wr.cells rfl rfl) rfl ?_)
 refine SOps.nil (.inl rfl) ?_
 refine At.pick [1, 2] (e' := [(1, .slice (some ⟨bx1, 0, none⟩) 2 2), (2, .pointer (some ⟨bx5, 0, none⟩))]) (by kernel_rfl) ?_
 refine At.region (ops := opt6_3) (m := 7) (k' := kt6_3) (by kernel_rfl) 300 (k'' := pt6_4) (by kernel_rfl) ?_
 refine SOps.pures 1 (i' := 1) (m' := 6) (e' := [(14, .slice (some ⟨bx1, 0, none⟩) 2 2), (1, .slice (some ⟨bx1, 0, none⟩) 2 2), (2, .pointer (some ⟨bx5, 0, none⟩))]) (by intro u; kernel_rfl) ?_
 refine SOps.o (Op.callS 15 10 #[.slice (some ⟨bx1, 0, none⟩) 2 2] (.tuple #[.int .i64 4, .bool true]) [3] (B := [Cells bx1 35 [.int .i64 2, .int .i64 1, .int .i64 0, .int .i64 4, .int .i64 2, .int .i64 0]]) (D := [Cells bx5 26 [.slice Sx2 8 cx3, .slice (some ⟨gx4, 0, none⟩) 2 2, .int .i64 0], Grow Sx2 cx3 3 1 8 (ints ([0, 1, 0, 1, 0, 1, 0, 1] : List Int)), Grow (some ⟨gx4, 0, none⟩) 2 3 1 2 (ints ([0, 0] : List Int))]) (by intro u; kernel_rfl) (cycle_fx bx1) (by first | exact .inr rfl | exact .inl rfl) (by kernel_rfl) ?_)
 refine SOps.pures 5 (i' := 7) (m' := 0) (e' := [(4, .bool true), (3, .int .i64 4), (17, .bool true), (16, .int .i64 4), (13, .tuple #[.int .i64 4, .bool true]), (15, .tuple #[.int .i64 4, .bool true]), (14, .slice (some ⟨bx1, 0, none⟩) 2 2), (1, .slice (some ⟨bx1, 0, none⟩) 2 2), (2, .pointer (some ⟨bx5, 0, none⟩))]) (by intro u; kernel_rfl) ?_
 refine SOps.nil (.inl rfl) ?_
 refine At.pick [1, 2, 3, 4] (e' := [(1, .slice (some ⟨bx1, 0, none⟩) 2 2), (2, .pointer (some ⟨bx5, 0, none⟩)), (3, .int .i64 4), (4, .bool true)]) (by kernel_rfl) ?_
 refine At.region (ops := opt6_4) (m := 9) (k' := kt6_4) (by kernel_rfl) 300 (k'' := pt6_5) (by kernel_rfl) ?_
 refine SOps.pures 1 (i' := 1) (m' := 8) (e' := [(19, .slice (some ⟨bx1, 0, none⟩) 2 2), (1, .slice (some ⟨bx1, 0, none⟩) 2 2), (2, .pointer (some ⟨bx5, 0, none⟩)), (3, .int .i64 4), (4, .bool true)]) (by intro u; kernel_rfl) ?_
 refine SOps.o (Op.callS 20 12 #[.slice (some ⟨bx1, 0, none⟩) 2 2] (.tuple #[.int .i64 4, .int .i64 4, .bool true]) [0] (B := [Cells bx1 35 [.int .i64 2, .int .i64 1, .int .i64 0, .int .i64 4, .int .i64 2, .int .i64 0]]) (D := [Cells bx5 26 [.slice Sx2 8 cx3, .slice (some ⟨gx4, 0, none⟩) 2 2, .int .i64 0], Grow Sx2 cx3 3 1 8 (ints ([0, 1, 0, 1, 0, 1, 0, 1] : List Int)), Grow (some ⟨gx4, 0, none⟩) 2 3 1 2 (ints ([0, 0] : List Int))]) (by intro u; kernel_rfl) (load_fx bx1) (by first | exact .inr rfl | exact .inl rfl) (by kernel_rfl) ?_)
 refine SOps.pures 7 (i' := 9) (m' := 0) (e' := [(7, .bool true), (6, .int .i64 4), (5, .int .i64 4), (23, .bool true), (22, .int .i64 4), (21, .int .i64 4), (18, .tuple #[.int .i64 4, .int .i64 4, .bool true]), (20, .tuple #[.int .i64 4, .int .i64 4, .bool true]), (19, .slice (some ⟨bx1, 0, none⟩) 2 2), (1, .slice (some ⟨bx1, 0, none⟩) 2 2), (2, .pointer (some ⟨bx5, 0, none⟩)), (3, .int .i64 4), (4, .bool true)]) (by intro u; kernel_rfl) ?_
 refine SOps.nil (.inl rfl) ?_
 refine At.pick [1, 2, 3, 4, 5, 6, 7] (e' := [(1, .slice (some ⟨bx1, 0, none⟩) 2 2), (2, .pointer (some ⟨bx5, 0, none⟩)), (3, .int .i64 4), (4, .bool true), (5, .int .i64 4), (6, .int .i64 4), (7, .bool true)]) (by kernel_rfl) ?_
 refine At.regionQ (ops := opt6_5) (m := 72) (k' := kt6_5) (by kernel_rfl) 300 (k'' := pt6_6) (by kernel_rfl) (by kernel_rfl) (by kernel_rfl) ?_
 refine SOps.pures 1 (i' := 1) (m' := 71) (e' := [(24, .pointer (some ⟨bx5, 0, none⟩)), (1, .slice (some ⟨bx1, 0, none⟩) 2 2), (2, .pointer (some ⟨bx5, 0, none⟩)), (3, .int .i64 4), (4, .bool true), (5, .int .i64 4), (6, .int .i64 4), (7, .bool true)]) (by intro u; kernel_rfl) ?_
 refine SOps.v (Val.ld1 1 25 24 bx5 0 (.slice Sx2 8 cx3) rfl (by intro u; kernel_rfl) (by kernel_rfl) (Rd.cells rfl)) ?_
 refine SOps.pures 4 (i' := 6) (m' := 66) (e' := [(29, .pointer (some ⟨bx5, 0, none⟩)), (28, .bool true), (27, .bool true), (26, .int .i64 8), (25, .slice Sx2 8 cx3), (24, .pointer (some ⟨bx5, 0, none⟩)), (1, .slice (some ⟨bx1, 0, none⟩) 2 2), (2, .pointer (some ⟨bx5, 0, none⟩)), (3, .int .i64 4), (4, .bool true), (5, .int .i64 4), (6, .int .i64 4), (7, .bool true)]) (by intro u; kernel_rfl) ?_
 refine SOps.v (Val.ld1 1 30 24 bx5 0 (.slice Sx2 8 cx3) rfl (by intro u; kernel_rfl) (by kernel_rfl) (Rd.cells rfl)) ?_
 refine SOps.learn (fun F w ho => Grow.some (j := 2) ho rfl) (fun hSx2 => ?_)
 refine SOps.v (Val.pv 31 (vN (Instr.indexAt 24 (.slice Sx2 8 cx3) (.int .i64 0))) (.pointer (some ⟨(blk Sx2), 0, none⟩)) (by intro u; kernel_rfl) (pv_indexO (el := 3) (sz := 1) (by kernel_rfl) (by kernel_rfl) (by omega) (by omega) (hSx2.1 (by omega)) (by omega))) ?_
 refine SOps.v (Val.ld1 2 32 3 (blk Sx2) 0 (.int .i64 0) rfl (by intro u; kernel_rfl) (by kernel_rfl) (Rd.grow rfl)) ?_
 refine SOps.pures 4 (i' := 13) (m' := 59) (e' := [(36, .pointer (some ⟨bx5, 0, none⟩)), (35, .bool true), (34, .bool true), (33, .bool true), (32, .int .i64 0), (31, .pointer (some ⟨(blk Sx2), 0, none⟩)), (30, .slice Sx2 8 cx3), (29, .pointer (some ⟨bx5, 0, none⟩)), (28, .bool true), (27, .bool true), (26, .int .i64 8), (25, .slice Sx2 8 cx3), (24, .pointer (some ⟨bx5, 0, none⟩)), (1, .slice (some ⟨bx1, 0, none⟩) 2 2), (2, .pointer (some ⟨bx5, 0, none⟩)), (3, .int .i64 4), (4, .bool true), (5, .int .i64 4), (6, .int .i64 4), (7, .bool true)]) (by intro u; kernel_rfl) ?_
 refine SOps.v (Val.ld1 1 37 24 bx5 0 (.slice Sx2 8 cx3) rfl (by intro u; kernel_rfl) (by kernel_rfl) (Rd.cells rfl)) ?_
 refine SOps.v (Val.pv 38 (vN (Instr.indexAt 24 (.slice Sx2 8 cx3) (.int .i64 1))) (.pointer (some ⟨(blk Sx2), 1, none⟩)) (by intro u; kernel_rfl) (pv_indexO (el := 3) (sz := 1) (by kernel_rfl) (by kernel_rfl) (by omega) (by omega) (hSx2.1 (by omega)) (by omega))) ?_
 refine SOps.v (Val.ld1 2 39 3 (blk Sx2) 1 (.int .i64 1) rfl (by intro u; kernel_rfl) (by kernel_rfl) (Rd.grow rfl)) ?_
 refine SOps.pures 4 (i' := 20) (m' := 52) (e' := [(43, .pointer (some ⟨bx5, 2, none⟩)), (42, .bool true), (41, .bool true), (40, .bool true), (39, .int .i64 1), (38, .pointer (some ⟨(blk Sx2), 1, none⟩)), (37, .slice Sx2 8 cx3), (36, .pointer (some ⟨bx5, 0, none⟩)), (35, .bool true), (34, .bool true), (33, .bool true), (32, .int .i64 0), (31, .pointer (some ⟨(blk Sx2), 0, none⟩)), (30, .slice Sx2 8 cx3), (29, .pointer (some ⟨bx5, 0, none⟩)), (28, .bool true), (27, .bool true), (26, .int .i64 8), (25, .slice Sx2 8 cx3), (24, .pointer (some ⟨bx5, 0, none⟩)), (1, .slice (some ⟨bx1, 0, none⟩) 2 2), (2, .pointer (some ⟨bx5, 0, none⟩)), (3, .int .i64 4), (4, .bool true), (5, .int .i64 4), (6, .int .i64 4), (7, .bool true)]) (by intro u; kernel_rfl) ?_
 refine SOps.v (Val.ld1 1 44 3 bx5 2 (.int .i64 0) rfl (by intro u; kernel_rfl) (by kernel_rfl) (Rd.cells rfl)) ?_
 refine SOps.pures 4 (i' := 25) (m' := 47) (e' := [(48, .pointer (some ⟨bx5, 1, none⟩)), (47, .bool true), (46, .bool true), (45, .bool true), (44, .int .i64 0), (43, .pointer (some ⟨bx5, 2, none⟩)), (42, .bool true), (41, .bool true), (40, .bool true), (39, .int .i64 1), (38, .pointer (some ⟨(blk Sx2), 1, none⟩)), (37, .slice Sx2 8 cx3), (36, .pointer (some ⟨bx5, 0, none⟩)), (35, .bool true), (34, .bool true), (33, .bool true), (32, .int .i64 0), (31, .pointer (some ⟨(blk Sx2), 0, none⟩)), (30, .slice Sx2 8 cx3), (29, .pointer (some ⟨bx5, 0, none⟩)), (28, .bool true), (27, .bool true), (26, .int .i64 8), (25, .slice Sx2 8 cx3), (24, .pointer (some ⟨bx5, 0, none⟩)), (1, .slice (some ⟨bx1, 0, none⟩) 2 2), (2, .pointer (some ⟨bx5, 0, none⟩)), (3, .int .i64 4), (4, .bool true), (5, .int .i64 4), (6, .int .i64 4), (7, .bool true)]) (by intro u; kernel_rfl) ?_
 refine SOps.v (Val.ld1 1 49 24 bx5 1 (.slice (some ⟨gx4, 0, none⟩) 2 2) rfl (by intro u; kernel_rfl) (by kernel_rfl) (Rd.cells rfl)) ?_
 refine SOps.pures 5 (i' := 31) (m' := 41) (e' := [(54, .pointer (some ⟨bx5, 1, none⟩)), (53, .bool true), (52, .bool true), (51, .bool true), (50, .int .i64 2), (49, .slice (some ⟨gx4, 0, none⟩) 2 2), (48, .pointer (some ⟨bx5, 1, none⟩)), (47, .bool true), (46, .bool true), (45, .bool true), (44, .int .i64 0), (43, .pointer (some ⟨bx5, 2, none⟩)), (42, .bool true), (41, .bool true), (40, .bool true), (39, .int .i64 1), (38, .pointer (some ⟨(blk Sx2), 1, none⟩)), (37, .slice Sx2 8 cx3), (36, .pointer (some ⟨bx5, 0, none⟩)), (35, .bool true), (34, .bool true), (33, .bool true), (32, .int .i64 0), (31, .pointer (some ⟨(blk Sx2), 0, none⟩)), (30, .slice Sx2 8 cx3), (29, .pointer (some ⟨bx5, 0, none⟩)), (28, .bool true), (27, .bool true), (26, .int .i64 8), (25, .slice Sx2 8 cx3), (24, .pointer (some ⟨bx5, 0, none⟩)), (1, .slice (some ⟨bx1, 0, none⟩) 2 2), (2, .pointer (some ⟨bx5, 0, none⟩)), (3, .int .i64 4), (4, .bool true), (5, .int .i64 4), (6, .int .i64 4), (7, .bool true)]) (by intro u; kernel_rfl) ?_
 refine SOps.v (Val.ld1 1 55 24 bx5 1 (.slice (some ⟨gx4, 0, none⟩) 2 2) rfl (by intro u; kernel_rfl) (by kernel_rfl) (Rd.cells rfl)) ?_
 refine SOps.v (Val.pv 56 (vN (Instr.indexAt 24 (.slice (some ⟨gx4, 0, none⟩) 2 2) (.int .i64 0))) (.pointer (some ⟨gx4, 0, none⟩)) (by intro u; kernel_rfl) (pv_index (el := 3) (sz := 1) (by kernel_rfl) (by kernel_rfl) (by omega) (by omega) (by omega))) ?_
 refine SOps.v (Val.ld1 3 57 3 gx4 0 (.int .i64 0) rfl (by intro u; kernel_rfl) (by kernel_rfl) (Rd.grow (S := (some ⟨gx4, 0, none⟩)) rfl)) ?_
 refine SOps.pures 1 (i' := 35) (m' := 37) (e' := [(58, .pointer (some ⟨bx5, 1, none⟩)), (57, .int .i64 0), (56, .pointer (some ⟨gx4, 0, none⟩)), (55, .slice (some ⟨gx4, 0, none⟩) 2 2), (54, .pointer (some ⟨bx5, 1, none⟩)), (53, .bool true), (52, .bool true), (51, .bool true), (50, .int .i64 2), (49, .slice (some ⟨gx4, 0, none⟩) 2 2), (48, .pointer (some ⟨bx5, 1, none⟩)), (47, .bool true), (46, .bool true), (45, .bool true), (44, .int .i64 0), (43, .pointer (some ⟨bx5, 2, none⟩)), (42, .bool true), (41, .bool true), (40, .bool true), (39, .int .i64 1), (38, .pointer (some ⟨(blk Sx2), 1, none⟩)), (37, .slice Sx2 8 cx3), (36, .pointer (some ⟨bx5, 0, none⟩)), (35, .bool true), (34, .bool true), (33, .bool true), (32, .int .i64 0), (31, .pointer (some ⟨(blk Sx2), 0, none⟩)), (30, .slice Sx2 8 cx3), (29, .pointer (some ⟨bx5, 0, none⟩)), (28, .bool true), (27, .bool true), (26, .int .i64 8), (25, .slice Sx2 8 cx3), (24, .pointer (some ⟨bx5, 0, none⟩)), (1, .slice (some ⟨bx1, 0, none⟩) 2 2), (2, .pointer (some ⟨bx5, 0, none⟩)), (3, .int .i64 4), (4, .bool true), (5, .int .i64 4), (6, .int .i64 4), (7, .bool true)]) (by intro u; kernel_rfl) ?_
 refine SOps.v (Val.ld1 1 59 24 bx5 1 (.slice (some ⟨gx4, 0, none⟩) 2 2) rfl (by intro u; kernel_rfl) (by kernel_rfl) (Rd.cells rfl)) ?_
 refine SOps.v (Val.pv 60 (vN (Instr.indexAt 24 (.slice (some ⟨gx4, 0, none⟩) 2 2) (.int .i64 1))) (.pointer (some ⟨gx4, 1, none⟩)) (by intro u; kernel_rfl) (pv_index (el := 3) (sz := 1) (by kernel_rfl) (by kernel_rfl) (by omega) (by omega) (by omega))) ?_
 refine SOps.v (Val.ld1 3 61 3 gx4 1 (.int .i64 0) rfl (by intro u; kernel_rfl) (by kernel_rfl) (Rd.grow (S := (some ⟨gx4, 0, none⟩)) rfl)) ?_
 refine SOps.pures 23 (i' := 61) (m' := 11) (e' := [(84, .slice (some ⟨bx1, 0, none⟩) 2 2), (83, .bool true), (82, .bool true), (81, .bool true), (80, .int .i64 4), (79, .bool true), (78, .bool true), (77, .bool true), (76, .int .i64 4), (75, .bool true), (74, .bool true), (73, .bool true), (72, .bool true), (71, .bool true), (70, .bool true), (69, .int .i64 4), (68, .bool true), (67, .bool true), (66, .bool true), (65, .bool true), (64, .bool true), (63, .bool true), (62, .int .i64 0), (61, .int .i64 0), (60, .pointer (some ⟨gx4, 1, none⟩)), (59, .slice (some ⟨gx4, 0, none⟩) 2 2), (58, .pointer (some ⟨bx5, 1, none⟩)), (57, .int .i64 0), (56, .pointer (some ⟨gx4, 0, none⟩)), (55, .slice (some ⟨gx4, 0, none⟩) 2 2), (54, .pointer (some ⟨bx5, 1, none⟩)), (53, .bool true), (52, .bool true), (51, .bool true), (50, .int .i64 2), (49, .slice (some ⟨gx4, 0, none⟩) 2 2), (48, .pointer (some ⟨bx5, 1, none⟩)), (47, .bool true), (46, .bool true), (45, .bool true), (44, .int .i64 0), (43, .pointer (some ⟨bx5, 2, none⟩)), (42, .bool true), (41, .bool true), (40, .bool true), (39, .int .i64 1), (38, .pointer (some ⟨(blk Sx2), 1, none⟩)), (37, .slice Sx2 8 cx3), (36, .pointer (some ⟨bx5, 0, none⟩)), (35, .bool true), (34, .bool true), (33, .bool true), (32, .int .i64 0), (31, .pointer (some ⟨(blk Sx2), 0, none⟩)), (30, .slice Sx2 8 cx3), (29, .pointer (some ⟨bx5, 0, none⟩)), (28, .bool true), (27, .bool true), (26, .int .i64 8), (25, .slice Sx2 8 cx3), (24, .pointer (some ⟨bx5, 0, none⟩)), (1, .slice (some ⟨bx1, 0, none⟩) 2 2), (2, .pointer (some ⟨bx5, 0, none⟩)), (3, .int .i64 4), (4, .bool true), (5, .int .i64 4), (6, .int .i64 4), (7, .bool true)]) (by intro u; kernel_rfl) ?_
 refine SOps.callQ 85 11 #[.slice (some ⟨bx1, 0, none⟩) 2 2] (.bool true) [0] (B := [Cells bx1 35 [.int .i64 2, .int .i64 1, .int .i64 0, .int .i64 4, .int .i64 2, .int .i64 0]]) (D := [Cells bx5 26 [.slice Sx2 8 cx3, .slice (some ⟨gx4, 0, none⟩) 2 2, .int .i64 0], Grow Sx2 cx3 3 1 8 (ints ([0, 1, 0, 1, 0, 1, 0, 1] : List Int)), Grow (some ⟨gx4, 0, none⟩) 2 3 1 2 (ints ([0, 0] : List Int))]) (by intro u; kernel_rfl) (fits_fx bx1) (by kernel_rfl) ?_
 refine SOps.pures 3 (i' := 65) (m' := 7) (e' := [(88, .slice (some ⟨bx1, 0, none⟩) 2 2), (87, .bool true), (86, .bool true), (85, .bool true), (84, .slice (some ⟨bx1, 0, none⟩) 2 2), (83, .bool true), (82, .bool true), (81, .bool true), (80, .int .i64 4), (79, .bool true), (78, .bool true), (77, .bool true), (76, .int .i64 4), (75, .bool true), (74, .bool true), (73, .bool true), (72, .bool true), (71, .bool true), (70, .bool true), (69, .int .i64 4), (68, .bool true), (67, .bool true), (66, .bool true), (65, .bool true), (64, .bool true), (63, .bool true), (62, .int .i64 0), (61, .int .i64 0), (60, .pointer (some ⟨gx4, 1, none⟩)), (59, .slice (some ⟨gx4, 0, none⟩) 2 2), (58, .pointer (some ⟨bx5, 1, none⟩)), (57, .int .i64 0), (56, .pointer (some ⟨gx4, 0, none⟩)), (55, .slice (some ⟨gx4, 0, none⟩) 2 2), (54, .pointer (some ⟨bx5, 1, none⟩)), (53, .bool true), (52, .bool true), (51, .bool true), (50, .int .i64 2), (49, .slice (some ⟨gx4, 0, none⟩) 2 2), (48, .pointer (some ⟨bx5, 1, none⟩)), (47, .bool true), (46, .bool true), (45, .bool true), (44, .int .i64 0), (43, .pointer (some ⟨bx5, 2, none⟩)), (42, .bool true), (41, .bool true), (40, .bool true), (39, .int .i64 1), (38, .pointer (some ⟨(blk Sx2), 1, none⟩)), (37, .slice Sx2 8 cx3), (36, .pointer (some ⟨bx5, 0, none⟩)), (35, .bool true), (34, .bool true), (33, .bool true), (32, .int .i64 0), (31, .pointer (some ⟨(blk Sx2), 0, none⟩)), (30, .slice Sx2 8 cx3), (29, .pointer (some ⟨bx5, 0, none⟩)), (28, .bool true), (27, .bool true), (26, .int .i64 8), (25, .slice Sx2 8 cx3), (24, .pointer (some ⟨bx5, 0, none⟩)), (1, .slice (some ⟨bx1, 0, none⟩) 2 2), (2, .pointer (some ⟨bx5, 0, none⟩)), (3, .int .i64 4), (4, .bool true), (5, .int .i64 4), (6, .int .i64 4), (7, .bool true)]) (by intro u; kernel_rfl) ?_
 refine SOps.callQ 89 8 #[.slice (some ⟨bx1, 0, none⟩) 2 2] (.bool true) [0] (B := [Cells bx1 35 [.int .i64 2, .int .i64 1, .int .i64 0, .int .i64 4, .int .i64 2, .int .i64 0]]) (D := [Cells bx5 26 [.slice Sx2 8 cx3, .slice (some ⟨gx4, 0, none⟩) 2 2, .int .i64 0], Grow Sx2 cx3 3 1 8 (ints ([0, 1, 0, 1, 0, 1, 0, 1] : List Int)), Grow (some ⟨gx4, 0, none⟩) 2 3 1 2 (ints ([0, 0] : List Int))]) (by intro u; kernel_rfl) (right8 (Cells bx1 35 [.int .i64 2, .int .i64 1, .int .i64 0, .int .i64 4, .int .i64 2, .int .i64 0]) (some ⟨bx1, 0, none⟩) [⟨2, 1, 0⟩, ⟨4, 2, 0⟩] 2 2 rfl InB.cells (fun _ => rfl) (by omega)) (by kernel_rfl) ?_
 refine SOps.pures 2 (i' := 68) (m' := 4) (e' := [(91, .bool true), (90, .bool true), (89, .bool true), (88, .slice (some ⟨bx1, 0, none⟩) 2 2), (87, .bool true), (86, .bool true), (85, .bool true), (84, .slice (some ⟨bx1, 0, none⟩) 2 2), (83, .bool true), (82, .bool true), (81, .bool true), (80, .int .i64 4), (79, .bool true), (78, .bool true), (77, .bool true), (76, .int .i64 4), (75, .bool true), (74, .bool true), (73, .bool true), (72, .bool true), (71, .bool true), (70, .bool true), (69, .int .i64 4), (68, .bool true), (67, .bool true), (66, .bool true), (65, .bool true), (64, .bool true), (63, .bool true), (62, .int .i64 0), (61, .int .i64 0), (60, .pointer (some ⟨gx4, 1, none⟩)), (59, .slice (some ⟨gx4, 0, none⟩) 2 2), (58, .pointer (some ⟨bx5, 1, none⟩)), (57, .int .i64 0), (56, .pointer (some ⟨gx4, 0, none⟩)), (55, .slice (some ⟨gx4, 0, none⟩) 2 2), (54, .pointer (some ⟨bx5, 1, none⟩)), (53, .bool true), (52, .bool true), (51, .bool true), (50, .int .i64 2), (49, .slice (some ⟨gx4, 0, none⟩) 2 2), (48, .pointer (some ⟨bx5, 1, none⟩)), (47, .bool true), (46, .bool true), (45, .bool true), (44, .int .i64 0), (43, .pointer (some ⟨bx5, 2, none⟩)), (42, .bool true), (41, .bool true), (40, .bool true), (39, .int .i64 1), (38, .pointer (some ⟨(blk Sx2), 1, none⟩)), (37, .slice Sx2 8 cx3), (36, .pointer (some ⟨bx5, 0, none⟩)), (35, .bool true), (34, .bool true), (33, .bool true), (32, .int .i64 0), (31, .pointer (some ⟨(blk Sx2), 0, none⟩)), (30, .slice Sx2 8 cx3), (29, .pointer (some ⟨bx5, 0, none⟩)), (28, .bool true), (27, .bool true), (26, .int .i64 8), (25, .slice Sx2 8 cx3), (24, .pointer (some ⟨bx5, 0, none⟩)), (1, .slice (some ⟨bx1, 0, none⟩) 2 2), (2, .pointer (some ⟨bx5, 0, none⟩)), (3, .int .i64 4), (4, .bool true), (5, .int .i64 4), (6, .int .i64 4), (7, .bool true)]) (by intro u; kernel_rfl) ?_
 refine SOps.callQ 92 8 #[.slice none 0 0] (.bool false) [0] (B := [Cells bx1 35 [.int .i64 2, .int .i64 1, .int .i64 0, .int .i64 4, .int .i64 2, .int .i64 0]]) (D := [Cells bx5 26 [.slice Sx2 8 cx3, .slice (some ⟨gx4, 0, none⟩) 2 2, .int .i64 0], Grow Sx2 cx3 3 1 8 (ints ([0, 1, 0, 1, 0, 1, 0, 1] : List Int)), Grow (some ⟨gx4, 0, none⟩) 2 3 1 2 (ints ([0, 0] : List Int))]) (by intro u; kernel_rfl) (right8 (Cells bx1 35 [.int .i64 2, .int .i64 1, .int .i64 0, .int .i64 4, .int .i64 2, .int .i64 0]) none [] 0 0 rfl (fun j v h => by simp [tasks] at h) (fun h => absurd h (by omega)) (by omega)) (by kernel_rfl) ?_
 refine SOps.pures 3 (i' := 72) (m' := 0) (e' := [(0, .bool true), (94, .bool true), (93, .bool true), (92, .bool false), (91, .bool true), (90, .bool true), (89, .bool true), (88, .slice (some ⟨bx1, 0, none⟩) 2 2), (87, .bool true), (86, .bool true), (85, .bool true), (84, .slice (some ⟨bx1, 0, none⟩) 2 2), (83, .bool true), (82, .bool true), (81, .bool true), (80, .int .i64 4), (79, .bool true), (78, .bool true), (77, .bool true), (76, .int .i64 4), (75, .bool true), (74, .bool true), (73, .bool true), (72, .bool true), (71, .bool true), (70, .bool true), (69, .int .i64 4), (68, .bool true), (67, .bool true), (66, .bool true), (65, .bool true), (64, .bool true), (63, .bool true), (62, .int .i64 0), (61, .int .i64 0), (60, .pointer (some ⟨gx4, 1, none⟩)), (59, .slice (some ⟨gx4, 0, none⟩) 2 2), (58, .pointer (some ⟨bx5, 1, none⟩)), (57, .int .i64 0), (56, .pointer (some ⟨gx4, 0, none⟩)), (55, .slice (some ⟨gx4, 0, none⟩) 2 2), (54, .pointer (some ⟨bx5, 1, none⟩)), (53, .bool true), (52, .bool true), (51, .bool true), (50, .int .i64 2), (49, .slice (some ⟨gx4, 0, none⟩) 2 2), (48, .pointer (some ⟨bx5, 1, none⟩)), (47, .bool true), (46, .bool true), (45, .bool true), (44, .int .i64 0), (43, .pointer (some ⟨bx5, 2, none⟩)), (42, .bool true), (41, .bool true), (40, .bool true), (39, .int .i64 1), (38, .pointer (some ⟨(blk Sx2), 1, none⟩)), (37, .slice Sx2 8 cx3), (36, .pointer (some ⟨bx5, 0, none⟩)), (35, .bool true), (34, .bool true), (33, .bool true), (32, .int .i64 0), (31, .pointer (some ⟨(blk Sx2), 0, none⟩)), (30, .slice Sx2 8 cx3), (29, .pointer (some ⟨bx5, 0, none⟩)), (28, .bool true), (27, .bool true), (26, .int .i64 8), (25, .slice Sx2 8 cx3), (24, .pointer (some ⟨bx5, 0, none⟩)), (1, .slice (some ⟨bx1, 0, none⟩) 2 2), (2, .pointer (some ⟨bx5, 0, none⟩)), (3, .int .i64 4), (4, .bool true), (5, .int .i64 4), (6, .int .i64 4), (7, .bool true)]) (by intro u; kernel_rfl) ?_
 refine SOps.nil (.inr (by kernel_rfl)) ?_
 refine At.pick [0] (e' := [(0, .bool true)]) (by kernel_rfl) ?_
 refine At.ret1 (fn := Try.f6) (v := .bool true) (t := 0) (by kernel_rfl) Try.func6 (by kernel_rfl) (by kernel_rfl) (fun F w ho => ?_)
 exact shutS [] rfl ho
end Go.Proofs.Dl
