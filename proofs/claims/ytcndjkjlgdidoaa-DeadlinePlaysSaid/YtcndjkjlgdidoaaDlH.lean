/- DeadlinePlays: the whole law. -/
import Derived.Test.YtcndjkjlgdidoaaDlG
import Derived.Below
namespace Go.Proofs.Dl
open Go Go.Sp Go.Dl
set_option linter.unusedVariables false
set_option linter.unusedSimpArgs false
set_option linter.unnecessarySimpa false
set_option maxRecDepth 100000
theorem play_law (B : Asn) (A : Option Addr) (l : List Task) (n c0 : Nat) (hl : l.length = n) (hB : InB B A (tasks l)) (hA : 0 < n → A = some ⟨blk A, ofs A, none⟩) (hn : n ≤ 1000000) (a : Int) (hR : rightB l = true) (T : Nat) (hT : ticksOf a = T) :
    Ctr Try.prog 7 #[.slice A n c0, .int .i64 a] [B] (fun v' => ex fun x : Option Addr × Nat × Nat => fact (v' = .agg #[.slice x.1 T x.2.1, .slice (some ⟨x.2.2, 0, none⟩) n n, .int .i64 (runR l n T).idle]) :: fact True :: ([Grow x.1 x.2.1 3 1 T (ints (runR l n T).did), Grow (some ⟨x.2.2, 0, none⟩) n 3 1 n (ints (runR l n T).mis), B] : List Asn)) false := by
  subst hT
  have h := play_yes B A l n c0 hl hB hA hn a hR _ rfl
  simp only [did_len] at h
  exact h
theorem right8_b (B : Asn) (A : Option Addr) (l : List Task) (n c0 : Nat) (hl : l.length = n) (hB : InB B A (tasks l)) (hA : 0 < n → A = some ⟨blk A, ofs A, none⟩) (hn : n ≤ 1000000) (b : Bool) (hR : rightB l = b) : Ctr Try.prog 8 #[.slice A n c0] [B] (fun v' => star (fact (v' = .bool b) :: [B])) false := by
  subst hR; exact right8 B A l n c0 hl hB hA hn
theorem right9_b (B : Asn) (A : Option Addr) (l : List Task) (n c0 : Nat) (hl : l.length = n) (hB : InB B A (tasks l)) (hA : 0 < n → A = some ⟨blk A, ofs A, none⟩) (hn : n ≤ 1000000) (b : Bool) (hR : rightB l = b) : Ctr Try.prog 9 #[.slice A n c0] [B] (fun v' => star (fact (v' = .bool b) :: [B])) false := by
  subst hR; exact right9 B A l n c0 hl hB hA hn

theorem law_big (B : Asn) (A : Option Addr) (n c0 : Nat) (a : Int) (hn30 : 30 < n) : Ctr Try.prog 3 #[.slice A n c0, .int .i64 a] [B] (fun v' => star (fact (v' = .bool true) :: [B])) false := by
 refine spec_of_at (fn := Try.f3) (c := bd3) (args := [.slice A n c0, .int .i64 a]) (n := 251) (e := [(0, .slice A n c0), (1, .int .i64 a)]) (k := pt3_55) Try.func3 (by kernel_rfl) (by kernel_rfl) (by kernel_rfl) (by kernel_rfl) 300 (by kernel_rfl) ?_
 refine At.region (ops := opt3_55) (m := 1) (k' := kt3_64) (by kernel_rfl) 300 (k'' := pt3_56) (by kernel_rfl) ?_
 refine SOps.pures 1 (i' := 1) (m' := 0) (e' := [(4, .bool false), (0, .slice A n c0), (1, .int .i64 a)]) (by intro u; kernel_rfl) ?_
 refine SOps.nil (.inl rfl) ?_
 refine At.pick [0, 1] (e' := [(0, .slice A n c0), (1, .int .i64 a)]) (by kernel_rfl) ?_
 refine At.region (ops := opt3_56) (m := 2) (k' := kt3_66) (by kernel_rfl) 300 (k'' := pt3_57) (by kernel_rfl) ?_
 refine SOps.o (Op.callS 21 6 #[] (.bool true) [] (B := []) (D := [B]) (by intro u; kernel_rfl) (fixedc) (by first | exact .inr rfl | exact .inl rfl) (by kernel_rfl) ?_)
 refine SOps.pures 1 (i' := 2) (m' := 0) (e' := [(22, .bool false), (21, .bool true), (0, .slice A n c0), (1, .int .i64 a)]) (by intro u; kernel_rfl) ?_
 refine SOps.nil (.inl rfl) ?_
 refine At.pick [0, 1, 22] (e' := [(0, .slice A n c0), (1, .int .i64 a), (22, .bool false)]) (by kernel_rfl) ?_
 refine At.cond 300 false (c := .tmp 22) (k1 := pt3_58) (k2 := pt3_59) (by kernel_rfl) (by intro u; kernel_rfl) (fun h => by cases h) (fun _ => ?_)
 refine At.pick [0, 1] (e' := [(0, .slice A n c0), (1, .int .i64 a)]) (by kernel_rfl) ?_
 refine At.region (ops := opt3_59) (m := 7) (k' := kt3_69) (by kernel_rfl) 300 (k'' := pt3_60) (by kernel_rfl) ?_
 refine SOps.pures 4 (i' := 4) (m' := 3) (e' := [(26, .bool (decide ((n : Int) > 30))), (25, .bool (decide ((n : Int) > 30))), (24, .int .i64 (n : Int)), (23, .slice A n c0), (0, .slice A n c0), (1, .int .i64 a)]) (by intro u; kernel_rfl) ?_
 refine SOps.split (fun zq => [(26, .bool zq), (25, .bool zq), (24, .int .i64 (n : Int)), (23, .slice A n c0), (0, .slice A n c0), (1, .int .i64 a)]) (decide ((n : Int) > 30)) (fun hx1 => ?_) (fun hx1 => ?_)
 ·have hx1 : (n : Int) > 30 := by simpa using hx1
  refine SOps.pures 3 (i' := 7) (m' := 0) (e' := [(29, .bool true), (28, .tuple #[]), (27, .tuple #[]), (26, .bool true), (25, .bool true), (24, .int .i64 (n : Int)), (23, .slice A n c0), (0, .slice A n c0), (1, .int .i64 a)]) (by intro u; kernel_rfl) ?_
  refine SOps.nil (.inl rfl) ?_
  refine At.pick [0, 1, 29] (e' := [(0, .slice A n c0), (1, .int .i64 a), (29, .bool true)]) (by kernel_rfl) ?_
  refine At.cond 300 true (c := .tmp 29) (k1 := pt3_61) (k2 := pt3_62) (by kernel_rfl) (by intro u; kernel_rfl) (fun _ => ?_) (fun h => by cases h)
  refine At.pick [] (e' := []) (by kernel_rfl) ?_
  refine At.region (ops := opt3_61) (m := 1) (k' := kt3_70) (by kernel_rfl) 300 (k'' := pt3_63) (by kernel_rfl) ?_
  refine SOps.pures 1 (i' := 1) (m' := 0) (e' := [(4, .bool true)]) (by intro u; kernel_rfl) ?_
  refine SOps.nil (.inl rfl) ?_
  refine At.ret1 (fn := Try.f3) (v := .bool true) (t := 4) (by kernel_rfl) Try.func3 (by kernel_rfl) (by kernel_rfl) (fun F w ho => ?_)
  exact shutS [0] rfl ho
 ·have hx1 : (n : Int) ≤ 30 := by simpa using hx1
  exact absurd hx1 (by omega)
theorem law_no (B : Asn) (A : Option Addr) (l : List Task) (n c0 : Nat) (hl : l.length = n) (hB : InB B A (tasks l)) (hA : 0 < n → A = some ⟨blk A, ofs A, none⟩) (hn : n ≤ 1000000) (a : Int) (hR : rightB l = false) : Ctr Try.prog 3 #[.slice A n c0, .int .i64 a] [B] (fun v' => star (fact (v' = .bool true) :: [B])) false := by
 refine spec_of_at (fn := Try.f3) (c := bd3) (args := [.slice A n c0, .int .i64 a]) (n := 251) (e := [(0, .slice A n c0), (1, .int .i64 a)]) (k := pt3_55) Try.func3 (by kernel_rfl) (by kernel_rfl) (by kernel_rfl) (by kernel_rfl) 300 (by kernel_rfl) ?_
 refine At.region (ops := opt3_55) (m := 1) (k' := kt3_64) (by kernel_rfl) 300 (k'' := pt3_56) (by kernel_rfl) ?_
 refine SOps.pures 1 (i' := 1) (m' := 0) (e' := [(4, .bool false), (0, .slice A n c0), (1, .int .i64 a)]) (by intro u; kernel_rfl) ?_
 refine SOps.nil (.inl rfl) ?_
 refine At.pick [0, 1] (e' := [(0, .slice A n c0), (1, .int .i64 a)]) (by kernel_rfl) ?_
 refine At.region (ops := opt3_56) (m := 2) (k' := kt3_66) (by kernel_rfl) 300 (k'' := pt3_57) (by kernel_rfl) ?_
 refine SOps.o (Op.callS 21 6 #[] (.bool true) [] (B := []) (D := [B]) (by intro u; kernel_rfl) (fixedc) (by first | exact .inr rfl | exact .inl rfl) (by kernel_rfl) ?_)
 refine SOps.pures 1 (i' := 2) (m' := 0) (e' := [(22, .bool false), (21, .bool true), (0, .slice A n c0), (1, .int .i64 a)]) (by intro u; kernel_rfl) ?_
 refine SOps.nil (.inl rfl) ?_
 refine At.pick [0, 1, 22] (e' := [(0, .slice A n c0), (1, .int .i64 a), (22, .bool false)]) (by kernel_rfl) ?_
 refine At.cond 300 false (c := .tmp 22) (k1 := pt3_58) (k2 := pt3_59) (by kernel_rfl) (by intro u; kernel_rfl) (fun h => by cases h) (fun _ => ?_)
 refine At.pick [0, 1] (e' := [(0, .slice A n c0), (1, .int .i64 a)]) (by kernel_rfl) ?_
 refine At.region (ops := opt3_59) (m := 7) (k' := kt3_69) (by kernel_rfl) 300 (k'' := pt3_60) (by kernel_rfl) ?_
 refine SOps.pures 4 (i' := 4) (m' := 3) (e' := [(26, .bool (decide ((n : Int) > 30))), (25, .bool (decide ((n : Int) > 30))), (24, .int .i64 (n : Int)), (23, .slice A n c0), (0, .slice A n c0), (1, .int .i64 a)]) (by intro u; kernel_rfl) ?_
 refine SOps.split (fun zq => [(26, .bool zq), (25, .bool zq), (24, .int .i64 (n : Int)), (23, .slice A n c0), (0, .slice A n c0), (1, .int .i64 a)]) (decide ((n : Int) > 30)) (fun hx1 => ?_) (fun hx1 => ?_)
 ·have hx1 : (n : Int) > 30 := by simpa using hx1
  refine SOps.pures 3 (i' := 7) (m' := 0) (e' := [(29, .bool true), (28, .tuple #[]), (27, .tuple #[]), (26, .bool true), (25, .bool true), (24, .int .i64 (n : Int)), (23, .slice A n c0), (0, .slice A n c0), (1, .int .i64 a)]) (by intro u; kernel_rfl) ?_
  refine SOps.nil (.inl rfl) ?_
  refine At.pick [0, 1, 29] (e' := [(0, .slice A n c0), (1, .int .i64 a), (29, .bool true)]) (by kernel_rfl) ?_
  refine At.cond 300 true (c := .tmp 29) (k1 := pt3_61) (k2 := pt3_62) (by kernel_rfl) (by intro u; kernel_rfl) (fun _ => ?_) (fun h => by cases h)
  refine At.pick [] (e' := []) (by kernel_rfl) ?_
  refine At.region (ops := opt3_61) (m := 1) (k' := kt3_70) (by kernel_rfl) 300 (k'' := pt3_63) (by kernel_rfl) ?_
  refine SOps.pures 1 (i' := 1) (m' := 0) (e' := [(4, .bool true)]) (by intro u; kernel_rfl) ?_
  refine SOps.nil (.inl rfl) ?_
  refine At.ret1 (fn := Try.f3) (v := .bool true) (t := 4) (by kernel_rfl) Try.func3 (by kernel_rfl) (by kernel_rfl) (fun F w ho => ?_)
  exact shutS [0] rfl ho
 ·have hx1 : (n : Int) ≤ 30 := by simpa using hx1
  refine SOps.pures 3 (i' := 7) (m' := 0) (e' := [(29, .bool (decide (a > 300))), (28, .bool (decide (a > 300))), (27, .int .i64 a), (26, .bool false), (25, .bool false), (24, .int .i64 (n : Int)), (23, .slice A n c0), (0, .slice A n c0), (1, .int .i64 a)]) (by intro u; kernel_rfl) ?_
  refine SOps.nil (.inl rfl) ?_
  refine At.pick [0, 1, 29] (e' := [(0, .slice A n c0), (1, .int .i64 a), (29, .bool (decide (a > 300)))]) (by kernel_rfl) ?_
  refine At.split (fun zq => [(0, .slice A n c0), (1, .int .i64 a), (29, .bool zq)]) (decide (a > 300)) (fun hx2 => ?_) (fun hx2 => ?_)
  ·have hx2 : a > 300 := by simpa using hx2
   refine At.cond 300 true (c := .tmp 29) (k1 := pt3_61) (k2 := pt3_62) (by kernel_rfl) (by intro u; kernel_rfl) (fun _ => ?_) (fun h => by cases h)
   refine At.pick [] (e' := []) (by kernel_rfl) ?_
   refine At.region (ops := opt3_61) (m := 1) (k' := kt3_70) (by kernel_rfl) 300 (k'' := pt3_63) (by kernel_rfl) ?_
   refine SOps.pures 1 (i' := 1) (m' := 0) (e' := [(4, .bool true)]) (by intro u; kernel_rfl) ?_
   refine SOps.nil (.inl rfl) ?_
   refine At.ret1 (fn := Try.f3) (v := .bool true) (t := 4) (by kernel_rfl) Try.func3 (by kernel_rfl) (by kernel_rfl) (fun F w ho => ?_)
   exact shutS [0] rfl ho
  ·have hx2 : a ≤ 300 := by simpa using hx2
   refine At.cond 300 false (c := .tmp 29) (k1 := pt3_61) (k2 := pt3_62) (by kernel_rfl) (by intro u; kernel_rfl) (fun h => by cases h) (fun _ => ?_)
   refine At.pick [0, 1] (e' := [(0, .slice A n c0), (1, .int .i64 a)]) (by kernel_rfl) ?_
   refine At.region (ops := opt3_62) (m := 5) (k' := kt3_71) (by kernel_rfl) 300 (k'' := pt3_64) (by kernel_rfl) ?_
   refine SOps.pures 2 (i' := 2) (m' := 3) (e' := [(31, .int .i64 a), (30, .slice A n c0), (0, .slice A n c0), (1, .int .i64 a)]) (by intro u; kernel_rfl) ?_
   refine SOps.o (Op.callS 32 7 #[.slice A n c0, .int .i64 a] (.agg #[.slice none 0 0, .slice none 0 0, .int .i64 0]) [0] (B := [B]) (D := []) (by intro u; kernel_rfl) (play_no B A l n c0 hl hB hA hn a hR) (by first | exact .inr rfl | exact .inl rfl) (by kernel_rfl) ?_)
   refine SOps.o (Op.new 5 26 [.slice none 0 0, .slice none 0 0, .int .i64 0] (fun b => .pointer (some ⟨b, 0, none⟩)) (by intro u b; kernel_rfl) ?_)
   intro bx3
   refine SOps.o (Op.st 0 26 bx3 0 (.agg #[.slice none 0 0, .slice none 0 0, .int .i64 0]) [.slice none 0 0, .slice none 0 0, .int .i64 0] 3 (B' := Cells bx3 26 [.slice none 0 0, .slice none 0 0, .int .i64 0]) (A' := [Cells bx3 26 [.slice none 0 0, .slice none 0 0, .int .i64 0], B]) rfl (by intro u; kernel_rfl) rfl (by kernel_rfl) rfl rfl (Wr.cells rfl rfl) rfl ?_)
   refine SOps.nil (.inl rfl) ?_
   refine At.pick [0, 1, 5] (e' := [(0, .slice A n c0), (1, .int .i64 a), (5, .pointer (some ⟨bx3, 0, none⟩))]) (by kernel_rfl) ?_
   refine At.region (ops := opt3_64) (m := 5) (k' := kt3_73) (by kernel_rfl) 300 (k'' := pt3_65) (by kernel_rfl) ?_
   refine SOps.pures 1 (i' := 1) (m' := 4) (e' := [(33, .slice A n c0), (0, .slice A n c0), (1, .int .i64 a), (5, .pointer (some ⟨bx3, 0, none⟩))]) (by intro u; kernel_rfl) ?_
   refine SOps.o (Op.callS 34 8 #[.slice A n c0] (.bool false) [1] (B := [B]) (D := [Cells bx3 26 [.slice none 0 0, .slice none 0 0, .int .i64 0]]) (by intro u; kernel_rfl) (right8_b B A l n c0 hl hB hA hn false hR) (by first | exact .inr rfl | exact .inl rfl) (by kernel_rfl) ?_)
   refine SOps.pures 1 (i' := 3) (m' := 2) (e' := [(35, .slice A n c0), (34, .bool false), (33, .slice A n c0), (0, .slice A n c0), (1, .int .i64 a), (5, .pointer (some ⟨bx3, 0, none⟩))]) (by intro u; kernel_rfl) ?_
   refine SOps.o (Op.callS 36 9 #[.slice A n c0] (.bool false) [0] (B := [B]) (D := [Cells bx3 26 [.slice none 0 0, .slice none 0 0, .int .i64 0]]) (by intro u; kernel_rfl) (right9_b B A l n c0 hl hB hA hn false hR) (by first | exact .inr rfl | exact .inl rfl) (by kernel_rfl) ?_)
   refine SOps.pures 1 (i' := 5) (m' := 0) (e' := [(37, .bool false), (36, .bool false), (35, .slice A n c0), (34, .bool false), (33, .slice A n c0), (0, .slice A n c0), (1, .int .i64 a), (5, .pointer (some ⟨bx3, 0, none⟩))]) (by intro u; kernel_rfl) ?_
   refine SOps.nil (.inl rfl) ?_
   refine At.pick [0, 1, 5, 37] (e' := [(0, .slice A n c0), (1, .int .i64 a), (5, .pointer (some ⟨bx3, 0, none⟩)), (37, .bool false)]) (by kernel_rfl) ?_
   refine At.cond 300 false (c := .tmp 37) (k1 := pt3_66) (k2 := pt3_67) (by kernel_rfl) (by intro u; kernel_rfl) (fun h => by cases h) (fun _ => ?_)
   refine At.pick [0, 1, 5] (e' := [(0, .slice A n c0), (1, .int .i64 a), (5, .pointer (some ⟨bx3, 0, none⟩))]) (by kernel_rfl) ?_
   refine At.region (ops := opt3_67) (m := 3) (k' := kt3_76) (by kernel_rfl) 300 (k'' := pt3_68) (by kernel_rfl) ?_
   refine SOps.pures 1 (i' := 1) (m' := 2) (e' := [(38, .slice A n c0), (0, .slice A n c0), (1, .int .i64 a), (5, .pointer (some ⟨bx3, 0, none⟩))]) (by intro u; kernel_rfl) ?_
   refine SOps.o (Op.callS 39 9 #[.slice A n c0] (.bool false) [0] (B := [B]) (D := [Cells bx3 26 [.slice none 0 0, .slice none 0 0, .int .i64 0]]) (by intro u; kernel_rfl) (right9_b B A l n c0 hl hB hA hn false hR) (by first | exact .inr rfl | exact .inl rfl) (by kernel_rfl) ?_)
   refine SOps.pures 1 (i' := 3) (m' := 0) (e' := [(40, .bool true), (39, .bool false), (38, .slice A n c0), (0, .slice A n c0), (1, .int .i64 a), (5, .pointer (some ⟨bx3, 0, none⟩))]) (by intro u; kernel_rfl) ?_
   refine SOps.nil (.inl rfl) ?_
   refine At.pick [0, 1, 5, 40] (e' := [(0, .slice A n c0), (1, .int .i64 a), (5, .pointer (some ⟨bx3, 0, none⟩)), (40, .bool true)]) (by kernel_rfl) ?_
   refine At.cond 300 true (c := .tmp 40) (k1 := pt3_69) (k2 := pt3_70) (by kernel_rfl) (by intro u; kernel_rfl) (fun _ => ?_) (fun h => by cases h)
   refine At.pick [0, 5] (e' := [(0, .slice A n c0), (5, .pointer (some ⟨bx3, 0, none⟩))]) (by kernel_rfl) ?_
   refine At.region (ops := opt3_69) (m := 7) (k' := kt3_77) (by kernel_rfl) 300 (k'' := pt3_71) (by kernel_rfl) ?_
   refine SOps.pures 1 (i' := 1) (m' := 6) (e' := [(42, .slice A n c0), (0, .slice A n c0), (5, .pointer (some ⟨bx3, 0, none⟩))]) (by intro u; kernel_rfl) ?_
   refine SOps.o (Op.callS 43 10 #[.slice A n c0] (.tuple #[.int .i64 0, .bool false]) [0] (B := [B]) (D := [Cells bx3 26 [.slice none 0 0, .slice none 0 0, .int .i64 0]]) (by intro u; kernel_rfl) (cycle_no B A l n c0 hl hB hA hn hR) (by first | exact .inr rfl | exact .inl rfl) (by kernel_rfl) ?_)
   refine SOps.pures 5 (i' := 7) (m' := 0) (e' := [(7, .bool false), (6, .int .i64 0), (45, .bool false), (44, .int .i64 0), (41, .tuple #[.int .i64 0, .bool false]), (43, .tuple #[.int .i64 0, .bool false]), (42, .slice A n c0), (0, .slice A n c0), (5, .pointer (some ⟨bx3, 0, none⟩))]) (by intro u; kernel_rfl) ?_
   refine SOps.nil (.inl rfl) ?_
   refine At.pick [0, 5, 7] (e' := [(0, .slice A n c0), (5, .pointer (some ⟨bx3, 0, none⟩)), (7, .bool false)]) (by kernel_rfl) ?_
   refine At.region (ops := opt3_71) (m := 21) (k' := kt3_79) (by kernel_rfl) 300 (k'' := pt3_72) (by kernel_rfl) ?_
   refine SOps.pures 1 (i' := 1) (m' := 20) (e' := [(46, .pointer (some ⟨bx3, 0, none⟩)), (0, .slice A n c0), (5, .pointer (some ⟨bx3, 0, none⟩)), (7, .bool false)]) (by intro u; kernel_rfl) ?_
   refine SOps.v (Val.ld1 1 47 24 bx3 0 (.slice none 0 0) rfl (by intro u; kernel_rfl) (by kernel_rfl) (Rd.cells rfl)) ?_
   refine SOps.pures 2 (i' := 4) (m' := 17) (e' := [(49, .pointer (some ⟨bx3, 1, none⟩)), (48, .int .i64 0), (47, .slice none 0 0), (46, .pointer (some ⟨bx3, 0, none⟩)), (0, .slice A n c0), (5, .pointer (some ⟨bx3, 0, none⟩)), (7, .bool false)]) (by intro u; kernel_rfl) ?_
   refine SOps.v (Val.ld1 1 50 24 bx3 1 (.slice none 0 0) rfl (by intro u; kernel_rfl) (by kernel_rfl) (Rd.cells rfl)) ?_
   refine SOps.pures 3 (i' := 8) (m' := 13) (e' := [(53, .pointer (some ⟨bx3, 2, none⟩)), (52, .int .i64 0), (51, .int .i64 0), (50, .slice none 0 0), (49, .pointer (some ⟨bx3, 1, none⟩)), (48, .int .i64 0), (47, .slice none 0 0), (46, .pointer (some ⟨bx3, 0, none⟩)), (0, .slice A n c0), (5, .pointer (some ⟨bx3, 0, none⟩)), (7, .bool false)]) (by intro u; kernel_rfl) ?_
   refine SOps.v (Val.ld1 1 54 3 bx3 2 (.int .i64 0) rfl (by intro u; kernel_rfl) (by kernel_rfl) (Rd.cells rfl)) ?_
   refine SOps.pures 8 (i' := 17) (m' := 4) (e' := [(62, .slice A n c0), (61, .bool true), (60, .bool true), (59, .bool true), (58, .bool false), (57, .bool true), (56, .bool true), (55, .int .i64 0), (54, .int .i64 0), (53, .pointer (some ⟨bx3, 2, none⟩)), (52, .int .i64 0), (51, .int .i64 0), (50, .slice none 0 0), (49, .pointer (some ⟨bx3, 1, none⟩)), (48, .int .i64 0), (47, .slice none 0 0), (46, .pointer (some ⟨bx3, 0, none⟩)), (0, .slice A n c0), (5, .pointer (some ⟨bx3, 0, none⟩)), (7, .bool false)]) (by intro u; kernel_rfl) ?_
   refine SOps.o (Op.callS 63 11 #[.slice A n c0] (.bool false) [0] (B := [B]) (D := [Cells bx3 26 [.slice none 0 0, .slice none 0 0, .int .i64 0]]) (by intro u; kernel_rfl) (fits_no B A l n c0 hl hB hA hn hR) (by first | exact .inr rfl | exact .inl rfl) (by kernel_rfl) ?_)
   refine SOps.pures 3 (i' := 21) (m' := 0) (e' := [(4, .bool true), (65, .bool true), (64, .bool true), (63, .bool false), (62, .slice A n c0), (61, .bool true), (60, .bool true), (59, .bool true), (58, .bool false), (57, .bool true), (56, .bool true), (55, .int .i64 0), (54, .int .i64 0), (53, .pointer (some ⟨bx3, 2, none⟩)), (52, .int .i64 0), (51, .int .i64 0), (50, .slice none 0 0), (49, .pointer (some ⟨bx3, 1, none⟩)), (48, .int .i64 0), (47, .slice none 0 0), (46, .pointer (some ⟨bx3, 0, none⟩)), (0, .slice A n c0), (5, .pointer (some ⟨bx3, 0, none⟩)), (7, .bool false)]) (by intro u; kernel_rfl) ?_
   refine SOps.nil (.inl rfl) ?_
   refine At.pick [4] (e' := [(4, .bool true)]) (by kernel_rfl) ?_
   refine At.ret1 (fn := Try.f3) (v := .bool true) (t := 4) (by kernel_rfl) Try.func3 (by kernel_rfl) (by kernel_rfl) (fun F w ho => ?_)
   exact shutS [0] rfl ho
theorem law_yes (B : Asn) (A : Option Addr) (l : List Task) (n c0 : Nat) (hl : l.length = n) (hB : InB B A (tasks l)) (hA : 0 < n → A = some ⟨blk A, ofs A, none⟩) (hn : n ≤ 1000000) (a : Int) (hR : rightB l = true) (T : Nat) (hT : ticksOf a = T) : Ctr Try.prog 3 #[.slice A n c0, .int .i64 a] [B] (fun v' => star (fact (v' = .bool true) :: [B])) false := by
 have hn16 : n ≤ 16 := by have := rightB_len hR; omega
 refine spec_of_at (fn := Try.f3) (c := bd3) (args := [.slice A n c0, .int .i64 a]) (n := 251) (e := [(0, .slice A n c0), (1, .int .i64 a)]) (k := pt3_55) Try.func3 (by kernel_rfl) (by kernel_rfl) (by kernel_rfl) (by kernel_rfl) 300 (by kernel_rfl) ?_
 refine At.region (ops := opt3_55) (m := 1) (k' := kt3_64) (by kernel_rfl) 300 (k'' := pt3_56) (by kernel_rfl) ?_
 refine SOps.pures 1 (i' := 1) (m' := 0) (e' := [(4, .bool false), (0, .slice A n c0), (1, .int .i64 a)]) (by intro u; kernel_rfl) ?_
 refine SOps.nil (.inl rfl) ?_
 refine At.pick [0, 1] (e' := [(0, .slice A n c0), (1, .int .i64 a)]) (by kernel_rfl) ?_
 refine At.region (ops := opt3_56) (m := 2) (k' := kt3_66) (by kernel_rfl) 300 (k'' := pt3_57) (by kernel_rfl) ?_
 refine SOps.o (Op.callS 21 6 #[] (.bool true) [] (B := []) (D := [B]) (by intro u; kernel_rfl) (fixedc) (by first | exact .inr rfl | exact .inl rfl) (by kernel_rfl) ?_)
 refine SOps.pures 1 (i' := 2) (m' := 0) (e' := [(22, .bool false), (21, .bool true), (0, .slice A n c0), (1, .int .i64 a)]) (by intro u; kernel_rfl) ?_
 refine SOps.nil (.inl rfl) ?_
 refine At.pick [0, 1, 22] (e' := [(0, .slice A n c0), (1, .int .i64 a), (22, .bool false)]) (by kernel_rfl) ?_
 refine At.cond 300 false (c := .tmp 22) (k1 := pt3_58) (k2 := pt3_59) (by kernel_rfl) (by intro u; kernel_rfl) (fun h => by cases h) (fun _ => ?_)
 refine At.pick [0, 1] (e' := [(0, .slice A n c0), (1, .int .i64 a)]) (by kernel_rfl) ?_
 refine At.region (ops := opt3_59) (m := 7) (k' := kt3_69) (by kernel_rfl) 300 (k'' := pt3_60) (by kernel_rfl) ?_
 refine SOps.pures 4 (i' := 4) (m' := 3) (e' := [(26, .bool (decide ((n : Int) > 30))), (25, .bool (decide ((n : Int) > 30))), (24, .int .i64 (n : Int)), (23, .slice A n c0), (0, .slice A n c0), (1, .int .i64 a)]) (by intro u; kernel_rfl) ?_
 refine SOps.split (fun zq => [(26, .bool zq), (25, .bool zq), (24, .int .i64 (n : Int)), (23, .slice A n c0), (0, .slice A n c0), (1, .int .i64 a)]) (decide ((n : Int) > 30)) (fun hx1 => ?_) (fun hx1 => ?_)
 ·have hx1 : (n : Int) > 30 := by simpa using hx1
  exact absurd hx1 (by omega)
 ·have hx1 : (n : Int) ≤ 30 := by simpa using hx1
  refine SOps.pures 3 (i' := 7) (m' := 0) (e' := [(29, .bool (decide (a > 300))), (28, .bool (decide (a > 300))), (27, .int .i64 a), (26, .bool false), (25, .bool false), (24, .int .i64 (n : Int)), (23, .slice A n c0), (0, .slice A n c0), (1, .int .i64 a)]) (by intro u; kernel_rfl) ?_
  refine SOps.nil (.inl rfl) ?_
  refine At.pick [0, 1, 29] (e' := [(0, .slice A n c0), (1, .int .i64 a), (29, .bool (decide (a > 300)))]) (by kernel_rfl) ?_
  refine At.split (fun zq => [(0, .slice A n c0), (1, .int .i64 a), (29, .bool zq)]) (decide (a > 300)) (fun hx2 => ?_) (fun hx2 => ?_)
  ·have hx2 : a > 300 := by simpa using hx2
   refine At.cond 300 true (c := .tmp 29) (k1 := pt3_61) (k2 := pt3_62) (by kernel_rfl) (by intro u; kernel_rfl) (fun _ => ?_) (fun h => by cases h)
   refine At.pick [] (e' := []) (by kernel_rfl) ?_
   refine At.region (ops := opt3_61) (m := 1) (k' := kt3_70) (by kernel_rfl) 300 (k'' := pt3_63) (by kernel_rfl) ?_
   refine SOps.pures 1 (i' := 1) (m' := 0) (e' := [(4, .bool true)]) (by intro u; kernel_rfl) ?_
   refine SOps.nil (.inl rfl) ?_
   refine At.ret1 (fn := Try.f3) (v := .bool true) (t := 4) (by kernel_rfl) Try.func3 (by kernel_rfl) (by kernel_rfl) (fun F w ho => ?_)
   exact shutS [0] rfl ho
  ·have hx2 : a ≤ 300 := by simpa using hx2
   refine At.cond 300 false (c := .tmp 29) (k1 := pt3_61) (k2 := pt3_62) (by kernel_rfl) (by intro u; kernel_rfl) (fun h => by cases h) (fun _ => ?_)
   refine At.pick [0, 1] (e' := [(0, .slice A n c0), (1, .int .i64 a)]) (by kernel_rfl) ?_
   have hT3 : T ≤ 300 := by rw [← hT]; unfold ticksOf; omega
   refine At.region (ops := opt3_62) (m := 5) (k' := kt3_71) (by kernel_rfl) 300 (k'' := pt3_64) (by kernel_rfl) ?_
   refine SOps.pures 2 (i' := 2) (m' := 3) (e' := [(31, .int .i64 a), (30, .slice A n c0), (0, .slice A n c0), (1, .int .i64 a)]) (by intro u; kernel_rfl) ?_
   refine SOps.o (Op.callX 32 7 #[.slice A n c0, .int .i64 a] _ _ [0] (B := [B]) (D := []) (by intro u; kernel_rfl) (play_law B A l n c0 hl hB hA hn a hR T hT) (by first | exact .inr rfl | exact .inl rfl) (by kernel_rfl) ?_)
   rintro ⟨Sx3, cx4, gx5⟩ -
   refine SOps.o (Op.new 5 26 [.slice none 0 0, .slice none 0 0, .int .i64 0] (fun b => .pointer (some ⟨b, 0, none⟩)) (by intro u b; kernel_rfl) ?_)
   intro bx6
   refine SOps.o (Op.st 0 26 bx6 0 (.agg #[.slice Sx3 T cx4, .slice (some ⟨gx5, 0, none⟩) n n, .int .i64 ((runR l n T).idle)]) [.slice Sx3 T cx4, .slice (some ⟨gx5, 0, none⟩) n n, .int .i64 ((runR l n T).idle)] 3 (B' := Cells bx6 26 [.slice Sx3 T cx4, .slice (some ⟨gx5, 0, none⟩) n n, .int .i64 ((runR l n T).idle)]) (A' := [Cells bx6 26 [.slice Sx3 T cx4, .slice (some ⟨gx5, 0, none⟩) n n, .int .i64 ((runR l n T).idle)], Grow Sx3 cx4 3 1 T (ints ((runR l n T).did)), Grow (some ⟨gx5, 0, none⟩) n 3 1 n (ints ((runR l n T).mis)), B]) rfl (by intro u; kernel_rfl) rfl (by kernel_rfl) rfl rfl (Wr.cells rfl rfl) rfl ?_)
   refine SOps.nil (.inl rfl) ?_
   refine At.pick [0, 1, 5] (e' := [(0, .slice A n c0), (1, .int .i64 a), (5, .pointer (some ⟨bx6, 0, none⟩))]) (by kernel_rfl) ?_
   refine At.region (ops := opt3_64) (m := 5) (k' := kt3_73) (by kernel_rfl) 300 (k'' := pt3_65) (by kernel_rfl) ?_
   refine SOps.pures 1 (i' := 1) (m' := 4) (e' := [(33, .slice A n c0), (0, .slice A n c0), (1, .int .i64 a), (5, .pointer (some ⟨bx6, 0, none⟩))]) (by intro u; kernel_rfl) ?_
   refine SOps.o (Op.callS 34 8 #[.slice A n c0] (.bool true) [3] (B := [B]) (D := [Cells bx6 26 [.slice Sx3 T cx4, .slice (some ⟨gx5, 0, none⟩) n n, .int .i64 ((runR l n T).idle)], Grow Sx3 cx4 3 1 T (ints ((runR l n T).did)), Grow (some ⟨gx5, 0, none⟩) n 3 1 n (ints ((runR l n T).mis))]) (by intro u; kernel_rfl) (right8_b B A l n c0 hl hB hA hn true hR) (by first | exact .inr rfl | exact .inl rfl) (by kernel_rfl) ?_)
   refine SOps.pures 1 (i' := 3) (m' := 2) (e' := [(35, .slice A n c0), (34, .bool true), (33, .slice A n c0), (0, .slice A n c0), (1, .int .i64 a), (5, .pointer (some ⟨bx6, 0, none⟩))]) (by intro u; kernel_rfl) ?_
   refine SOps.o (Op.callS 36 9 #[.slice A n c0] (.bool true) [0] (B := [B]) (D := [Cells bx6 26 [.slice Sx3 T cx4, .slice (some ⟨gx5, 0, none⟩) n n, .int .i64 ((runR l n T).idle)], Grow Sx3 cx4 3 1 T (ints ((runR l n T).did)), Grow (some ⟨gx5, 0, none⟩) n 3 1 n (ints ((runR l n T).mis))]) (by intro u; kernel_rfl) (right9_b B A l n c0 hl hB hA hn true hR) (by first | exact .inr rfl | exact .inl rfl) (by kernel_rfl) ?_)
   refine SOps.pures 1 (i' := 5) (m' := 0) (e' := [(37, .bool false), (36, .bool true), (35, .slice A n c0), (34, .bool true), (33, .slice A n c0), (0, .slice A n c0), (1, .int .i64 a), (5, .pointer (some ⟨bx6, 0, none⟩))]) (by intro u; kernel_rfl) ?_
   refine SOps.nil (.inl rfl) ?_
   refine At.pick [0, 1, 5, 37] (e' := [(0, .slice A n c0), (1, .int .i64 a), (5, .pointer (some ⟨bx6, 0, none⟩)), (37, .bool false)]) (by kernel_rfl) ?_
   refine At.cond 300 false (c := .tmp 37) (k1 := pt3_66) (k2 := pt3_67) (by kernel_rfl) (by intro u; kernel_rfl) (fun h => by cases h) (fun _ => ?_)
   refine At.pick [0, 1, 5] (e' := [(0, .slice A n c0), (1, .int .i64 a), (5, .pointer (some ⟨bx6, 0, none⟩))]) (by kernel_rfl) ?_
   refine At.region (ops := opt3_67) (m := 3) (k' := kt3_76) (by kernel_rfl) 300 (k'' := pt3_68) (by kernel_rfl) ?_
   refine SOps.pures 1 (i' := 1) (m' := 2) (e' := [(38, .slice A n c0), (0, .slice A n c0), (1, .int .i64 a), (5, .pointer (some ⟨bx6, 0, none⟩))]) (by intro u; kernel_rfl) ?_
   refine SOps.o (Op.callS 39 9 #[.slice A n c0] (.bool true) [0] (B := [B]) (D := [Cells bx6 26 [.slice Sx3 T cx4, .slice (some ⟨gx5, 0, none⟩) n n, .int .i64 ((runR l n T).idle)], Grow Sx3 cx4 3 1 T (ints ((runR l n T).did)), Grow (some ⟨gx5, 0, none⟩) n 3 1 n (ints ((runR l n T).mis))]) (by intro u; kernel_rfl) (right9_b B A l n c0 hl hB hA hn true hR) (by first | exact .inr rfl | exact .inl rfl) (by kernel_rfl) ?_)
   refine SOps.pures 1 (i' := 3) (m' := 0) (e' := [(40, .bool false), (39, .bool true), (38, .slice A n c0), (0, .slice A n c0), (1, .int .i64 a), (5, .pointer (some ⟨bx6, 0, none⟩))]) (by intro u; kernel_rfl) ?_
   refine SOps.nil (.inl rfl) ?_
   refine At.pick [0, 1, 5, 40] (e' := [(0, .slice A n c0), (1, .int .i64 a), (5, .pointer (some ⟨bx6, 0, none⟩)), (40, .bool false)]) (by kernel_rfl) ?_
   refine At.cond 300 false (c := .tmp 40) (k1 := pt3_69) (k2 := pt3_70) (by kernel_rfl) (by intro u; kernel_rfl) (fun h => by cases h) (fun _ => ?_)
   refine At.pick [0, 1, 5] (e' := [(0, .slice A n c0), (1, .int .i64 a), (5, .pointer (some ⟨bx6, 0, none⟩))]) (by kernel_rfl) ?_
   refine At.region (ops := opt3_70) (m := 1) (k' := kt3_78) (by kernel_rfl) 300 (k'' := pt3_73) (by kernel_rfl) ?_
   refine SOps.pures 1 (i' := 1) (m' := 0) (e' := [(8, .slice none 0 0), (0, .slice A n c0), (1, .int .i64 a), (5, .pointer (some ⟨bx6, 0, none⟩))]) (by intro u; kernel_rfl) ?_
   refine SOps.nil (.inl rfl) ?_
   refine At.pick [0, 1, 5, 8] (e' := [(0, .slice A n c0), (1, .int .i64 a), (5, .pointer (some ⟨bx6, 0, none⟩)), (8, .slice none 0 0)]) (by kernel_rfl) ?_
   refine At.region (ops := opt3_73) (m := 4) (k' := kt3_80) (by kernel_rfl) 300 (k'' := pt3_74) (by kernel_rfl) ?_
   refine SOps.pures 2 (i' := 2) (m' := 2) (e' := [(67, .int .i64 (n : Int)), (66, .slice A n c0), (0, .slice A n c0), (1, .int .i64 a), (5, .pointer (some ⟨bx6, 0, none⟩)), (8, .slice none 0 0)]) (by intro u; kernel_rfl) ?_
   refine SOps.o (Op.mk 68 (sz := 1) (bytes := 8) el_24 n (by omega) (by unfold maxLen; omega) (by intro u; kernel_rfl) ?_)
   intro bx7
   rw [ints_zero]
   refine SOps.pures 1 (i' := 4) (m' := 0) (e' := [(9, .slice (some ⟨bx7, 0, none⟩) n n), (68, .slice (some ⟨bx7, 0, none⟩) n n), (67, .int .i64 (n : Int)), (66, .slice A n c0), (0, .slice A n c0), (1, .int .i64 a), (5, .pointer (some ⟨bx6, 0, none⟩)), (8, .slice none 0 0)]) (by intro u; kernel_rfl) ?_
   refine SOps.nil (.inl rfl) ?_
   refine At.pick [0, 1, 5, 8, 9] (e' := [(0, .slice A n c0), (1, .int .i64 a), (5, .pointer (some ⟨bx6, 0, none⟩)), (8, .slice none 0 0), (9, .slice (some ⟨bx7, 0, none⟩) n n)]) (by kernel_rfl) ?_
   refine At.region (ops := opt3_74) (m := 1) (k' := kt3_81) (by kernel_rfl) 300 (k'' := pt3_75) (by kernel_rfl) ?_
   refine SOps.pures 1 (i' := 1) (m' := 0) (e' := [(10, .int .i64 0), (0, .slice A n c0), (1, .int .i64 a), (5, .pointer (some ⟨bx6, 0, none⟩)), (8, .slice none 0 0), (9, .slice (some ⟨bx7, 0, none⟩) n n)]) (by intro u; kernel_rfl) ?_
   refine SOps.nil (.inl rfl) ?_
   refine At.pick [0, 1, 5, 8, 9, 10] (e' := [(0, .slice A n c0), (1, .int .i64 a), (5, .pointer (some ⟨bx6, 0, none⟩)), (8, .slice none 0 0), (9, .slice (some ⟨bx7, 0, none⟩) n n), (10, .int .i64 0)]) (by kernel_rfl) ?_
   refine At.region (ops := opt3_75) (m := 14) (k' := kt3_83) (by kernel_rfl) 300 (k'' := pt3_76) (by kernel_rfl) ?_
   refine SOps.pures 1 (i' := 1) (m' := 13) (e' := [(69, .pointer (some ⟨bx6, 0, none⟩)), (0, .slice A n c0), (1, .int .i64 a), (5, .pointer (some ⟨bx6, 0, none⟩)), (8, .slice none 0 0), (9, .slice (some ⟨bx7, 0, none⟩) n n), (10, .int .i64 0)]) (by intro u; kernel_rfl) ?_
   refine SOps.v (Val.ld1 2 70 24 bx6 0 (.slice Sx3 T cx4) rfl (by intro u; kernel_rfl) (by kernel_rfl) (Rd.cells rfl)) ?_
   refine SOps.pures 2 (i' := 4) (m' := 10) (e' := [(72, .int .i64 a), (71, .int .i64 (T : Int)), (70, .slice Sx3 T cx4), (69, .pointer (some ⟨bx6, 0, none⟩)), (0, .slice A n c0), (1, .int .i64 a), (5, .pointer (some ⟨bx6, 0, none⟩)), (8, .slice none 0 0), (9, .slice (some ⟨bx7, 0, none⟩) n n), (10, .int .i64 0)]) (by intro u; kernel_rfl) ?_
   refine SOps.v (Val.pe 73 (.int .i64 (if a < 0 then 0 else a)) (.int .i64 (T : Int)) (by intro u; kernel_rfl) (by rw [← hT]; unfold ticksOf; congr 1; split <;> omega)) ?_
   refine SOps.pures 2 (i' := 7) (m' := 7) (e' := [(75, .bool ((T : Int) != (T : Int))), (74, .bool ((T : Int) != (T : Int))), (73, .int .i64 (T : Int)), (72, .int .i64 a), (71, .int .i64 (T : Int)), (70, .slice Sx3 T cx4), (69, .pointer (some ⟨bx6, 0, none⟩)), (0, .slice A n c0), (1, .int .i64 a), (5, .pointer (some ⟨bx6, 0, none⟩)), (8, .slice none 0 0), (9, .slice (some ⟨bx7, 0, none⟩) n n), (10, .int .i64 0)]) (by intro u; kernel_rfl) ?_
   refine SOps.split (fun zq => [(75, .bool zq), (74, .bool zq), (73, .int .i64 (T : Int)), (72, .int .i64 a), (71, .int .i64 (T : Int)), (70, .slice Sx3 T cx4), (69, .pointer (some ⟨bx6, 0, none⟩)), (0, .slice A n c0), (1, .int .i64 a), (5, .pointer (some ⟨bx6, 0, none⟩)), (8, .slice none 0 0), (9, .slice (some ⟨bx7, 0, none⟩) n n), (10, .int .i64 0)]) (((T : Int) != (T : Int))) (fun hx8 => ?_) (fun hx8 => ?_)
   ·have hx8 : (T : Int) ≠ (T : Int) := by simpa using hx8
    exact absurd hx8 (by omega)
   ·have hx8 : (T : Int) = (T : Int) := by simpa using hx8
    refine SOps.pures 1 (i' := 8) (m' := 6) (e' := [(76, .pointer (some ⟨bx6, 1, none⟩)), (75, .bool false), (74, .bool false), (73, .int .i64 (T : Int)), (72, .int .i64 a), (71, .int .i64 (T : Int)), (70, .slice Sx3 T cx4), (69, .pointer (some ⟨bx6, 0, none⟩)), (0, .slice A n c0), (1, .int .i64 a), (5, .pointer (some ⟨bx6, 0, none⟩)), (8, .slice none 0 0), (9, .slice (some ⟨bx7, 0, none⟩) n n), (10, .int .i64 0)]) (by intro u; kernel_rfl) ?_
    refine SOps.v (Val.ld1 2 77 24 bx6 1 (.slice (some ⟨gx5, 0, none⟩) n n) rfl (by intro u; kernel_rfl) (by kernel_rfl) (Rd.cells rfl)) ?_
    refine SOps.pures 5 (i' := 14) (m' := 0) (e' := [(82, .bool ((n : Int) != (n : Int))), (81, .bool ((n : Int) != (n : Int))), (80, .int .i64 (n : Int)), (79, .slice A n c0), (78, .int .i64 (n : Int)), (77, .slice (some ⟨gx5, 0, none⟩) n n), (76, .pointer (some ⟨bx6, 1, none⟩)), (75, .bool false), (74, .bool false), (73, .int .i64 (T : Int)), (72, .int .i64 a), (71, .int .i64 (T : Int)), (70, .slice Sx3 T cx4), (69, .pointer (some ⟨bx6, 0, none⟩)), (0, .slice A n c0), (1, .int .i64 a), (5, .pointer (some ⟨bx6, 0, none⟩)), (8, .slice none 0 0), (9, .slice (some ⟨bx7, 0, none⟩) n n), (10, .int .i64 0)]) (by intro u; kernel_rfl) ?_
    refine SOps.nil (.inl rfl) ?_
    refine At.pick [0, 1, 5, 8, 9, 10, 82] (e' := [(0, .slice A n c0), (1, .int .i64 a), (5, .pointer (some ⟨bx6, 0, none⟩)), (8, .slice none 0 0), (9, .slice (some ⟨bx7, 0, none⟩) n n), (10, .int .i64 0), (82, .bool ((n : Int) != (n : Int)))]) (by kernel_rfl) ?_
    refine At.split (fun zq => [(0, .slice A n c0), (1, .int .i64 a), (5, .pointer (some ⟨bx6, 0, none⟩)), (8, .slice none 0 0), (9, .slice (some ⟨bx7, 0, none⟩) n n), (10, .int .i64 0), (82, .bool zq)]) (((n : Int) != (n : Int))) (fun hx9 => ?_) (fun hx9 => ?_)
    ·have hx9 : (n : Int) ≠ (n : Int) := by simpa using hx9
     exact absurd hx9 (by omega)
    ·have hx9 : (n : Int) = (n : Int) := by simpa using hx9
     refine At.cond 300 false (c := .tmp 82) (k1 := pt3_77) (k2 := pt3_78) (by kernel_rfl) (by intro u; kernel_rfl) (fun h => by cases h) (fun _ => ?_)
     refine At.pick [0, 1, 5, 8, 9, 10] (e' := [(0, .slice A n c0), (1, .int .i64 a), (5, .pointer (some ⟨bx6, 0, none⟩)), (8, .slice none 0 0), (9, .slice (some ⟨bx7, 0, none⟩) n n), (10, .int .i64 0)]) (by kernel_rfl) ?_
     refine At.region (ops := opt3_78) (m := 3) (k' := kt3_85) (by kernel_rfl) 300 (k'' := pt3_34) (by kernel_rfl) ?_
     refine SOps.pures 1 (i' := 1) (m' := 2) (e' := [(83, .int .i64 a), (0, .slice A n c0), (1, .int .i64 a), (5, .pointer (some ⟨bx6, 0, none⟩)), (8, .slice none 0 0), (9, .slice (some ⟨bx7, 0, none⟩) n n), (10, .int .i64 0)]) (by intro u; kernel_rfl) ?_
     refine SOps.v (Val.pe 84 (.int .i64 (if a < 0 then 0 else a)) (.int .i64 (T : Int)) (by intro u; kernel_rfl) (by rw [← hT]; unfold ticksOf; congr 1; split <;> omega)) ?_
     refine SOps.pures 1 (i' := 3) (m' := 0) (e' := [(85, .int .i64 0), (84, .int .i64 (T : Int)), (83, .int .i64 a), (0, .slice A n c0), (1, .int .i64 a), (5, .pointer (some ⟨bx6, 0, none⟩)), (8, .slice none 0 0), (9, .slice (some ⟨bx7, 0, none⟩) n n), (10, .int .i64 0)]) (by intro u; kernel_rfl) ?_
     refine SOps.nil (.inl rfl) ?_
     refine At.pick [0, 5, 8, 9, 10, 84, 85] (e' := [(0, .slice A n c0), (5, .pointer (some ⟨bx6, 0, none⟩)), (8, .slice none 0 0), (9, .slice (some ⟨bx7, 0, none⟩) n n), (10, .int .i64 0), (84, .int .i64 (T : Int)), (85, .int .i64 0)]) (by kernel_rfl) ?_
     refine At.conseq1 (fun F w ho => Grow.nil_ 33 3 ho) ?_
     refine At.keep [2, 2, 2, 2, 1, 0] (B := [B, Cells bx6 26 [.slice Sx3 T cx4, .slice (some ⟨gx5, 0, none⟩) n n, .int .i64 ((runR l n T).idle)], Grow Sx3 cx4 3 1 T (ints ((runR l n T).did)), Grow (some ⟨gx5, 0, none⟩) n 3 1 n (ints ((runR l n T).mis)), Grow (some ⟨bx7, 0, none⟩) n 3 1 n (ints (List.replicate n 0)), Grow none 0 33 3 0 (([] : List Job).flatMap encJ)]) (D := []) rfl ?_
     exact lawO B A l n c0 hl hB hA hn hn16 T hT3 bx6 gx5 bx7 cx4 Sx3 hR (T + 1) 0 none 0 0 [] (by omega) (by omega) (by omega) rfl (Rel.start l n)
theorem law_any (B : Asn) (A : Option Addr) (l : List Task) (n c0 : Nat) (hl : l.length = n) (hB : InB B A (tasks l)) (a : Int) : Ctr Try.prog 3 #[.slice A n c0, .int .i64 a] [B] (fun v' => star (fact (v' = .bool true) :: [B])) false := by
  by_cases h : 30 < n
  · exact law_big B A n c0 a h
  · have hA : 0 < n → A = some ⟨blk A, ofs A, none⟩ := fun hp => hB.base (by rw [tasks_len]; omega)
    cases hR : rightB l with
    | true => exact law_yes B A l n c0 hl hB hA (by omega) a hR _ rfl
    | false => exact law_no B A l n c0 hl hB hA (by omega) a hR
theorem law_calls (W : World) (A : Option Addr) (l : List Task) (c0 : Nat) (hin : InW W A (tasks l)) (a : Int) : Calls Try.prog 3 #[.slice A l.length c0, .int .i64 a] W fun e W' => e = .returned (.bool true) ∧ RowKit.Below W.heap.size W W' := by
  refine (law_any (Whole W) A l l.length c0 rfl (InB.whole hin) a W ⟨Hp.emp, W⟩ ⟨Owns.whole W, Same.refl W⟩).mono fun e W' he => ?_
  cases e with
  | returned v =>
    have h1 := Owns.fact_out (Owns.star_out he.1)
    refine ⟨by rw [h1.1], he.2.os, he.2.tape, he.2.output, he.2.size, Whole.same h1.2⟩
  | panicked c => exact he.elim
  | outgrown => cases he
end Go.Proofs.Dl
