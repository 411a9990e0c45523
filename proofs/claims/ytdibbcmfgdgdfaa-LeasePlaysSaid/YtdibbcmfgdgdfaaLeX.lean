/- Leases: the fixed calls, one by one. Conditions: none. -/
import Derived.Test.YtdibbcmfgdgdfaaLeC
set_option linter.unnecessarySimpa false
set_option linter.unusedVariables false
set_option linter.unusedSimpArgs false
set_option maxRecDepth 100000
namespace Go.Proofs.Le
open Go Go.Sp Go.Le
def e0 : De := newD 3
def e1 : De := (e0.tick 10).put 7 ⟨1, 1, 15, false⟩
def e2 : De := e1.tick 14
def e3 : De := e2.tick 16
def e4 : De := (e3.tick 18).put 7 ⟨2, 2, 23, false⟩
def e5 : De := (e4.tick 20).put 7 ⟨2, 2, 29, false⟩
def e6 : De := e5.tick 21
def e7 : De := e6.tick 21
def e8 : De := e7.tick 21
def e9 : De := (e8.tick 21).put 7 ⟨2, 2, 29, true⟩
def e10 : De := e9.tick 21
theorem x1 (d : Nat) : Ctr Try.prog 9 #[.pointer (some ⟨d, 0, none⟩), .int .i64 10, .int .i64 7, .int .i64 1, .int .i64 5] [DeskC d e0] (fun v' => star (fact (v' = .tuple #[.agg #[.int .i64 1, .int .i64 1, .int .i64 15], .int .i64 0]) :: [DeskC d e1])) false := by
  have h := takeOk d e0 10 7 1 5 (by omega) (by omega) (by omega) (by omega) (by omega) (by decide +kernel) (by decide +kernel)
  rw [show ((e0.tick 10).th (7 : Int).toNat).tok + 1 = 1 by decide +kernel, show addI (e0.tick 10).now 5 = 15 by decide +kernel] at h
  exact h
theorem x2 (d : Nat) : Ctr Try.prog 9 #[.pointer (some ⟨d, 0, none⟩), .int .i64 14, .int .i64 7, .int .i64 2, .int .i64 5] [DeskC d e1] (fun v' => star (fact (v' = .tuple #[.agg #[.int .i64 0, .int .i64 0, .int .i64 0], .int .i64 9]) :: [DeskC d e2])) false :=
  takeBusy d e1 14 7 2 5 (by omega) (by omega) (by omega) (by omega) (by omega) (by decide +kernel)
theorem x3 (d : Nat) : Ctr Try.prog 9 #[.pointer (some ⟨d, 0, none⟩), .int .i64 16, .int .i64 7, .int .i64 2, .int .i64 5] [DeskC d e2] (fun v' => star (fact (v' = .tuple #[.agg #[.int .i64 0, .int .i64 0, .int .i64 0], .int .i64 9]) :: [DeskC d e3])) false :=
  takeBusy d e2 16 7 2 5 (by omega) (by omega) (by omega) (by omega) (by omega) (by decide +kernel)
theorem x4 (d : Nat) : Ctr Try.prog 9 #[.pointer (some ⟨d, 0, none⟩), .int .i64 18, .int .i64 7, .int .i64 2, .int .i64 5] [DeskC d e3] (fun v' => star (fact (v' = .tuple #[.agg #[.int .i64 2, .int .i64 2, .int .i64 23], .int .i64 0]) :: [DeskC d e4])) false := by
  have h := takeOk d e3 18 7 2 5 (by omega) (by omega) (by omega) (by omega) (by omega) (by decide +kernel) (by decide +kernel)
  rw [show ((e3.tick 18).th (7 : Int).toNat).tok + 1 = 2 by decide +kernel, show addI (e3.tick 18).now 5 = 23 by decide +kernel] at h
  exact h
theorem x5 (d : Nat) : Ctr Try.prog 10 #[.pointer (some ⟨d, 0, none⟩), .int .i64 20, .int .i64 7, .int .i64 2, .int .i64 9] [DeskC d e4] (fun v' => star (fact (v' = .tuple #[.agg #[.int .i64 2, .int .i64 2, .int .i64 29], .int .i64 0]) :: [DeskC d e5])) false := by
  have h := renewOk d e4 20 7 2 9 (by omega) (by omega) (by omega) (by omega) (by decide +kernel) (by decide +kernel)
  rw [show max ((e4.tick 20).th (7 : Int).toNat).fin (addI (e4.tick 20).now 9) = 29 by decide +kernel, show ((e4.tick 20).th (7 : Int).toNat).who = 2 by decide +kernel, show ((e4.tick 20).th (7 : Int).toNat).tok = 2 by decide +kernel, show ((e4.tick 20).th (7 : Int).toNat).given = false by decide +kernel] at h
  exact h
theorem x6 (d : Nat) : Ctr Try.prog 12 #[.pointer (some ⟨d, 0, none⟩), .int .i64 21, .int .i64 7, .int .i64 2] [DeskC d e5] (fun v' => star (fact (v' = .bool true) :: [DeskC d e6])) false := by
  have h := rightYes d e5 21 7 2 (by omega) (by omega) (by decide +kernel)
  rw [show decide ((e5.th (7 : Int).toNat).tok = 2) = true by decide +kernel] at h
  exact h
theorem x7 (d : Nat) : Ctr Try.prog 13 #[.pointer (some ⟨d, 0, none⟩), .int .i64 21] [DeskC d e6] (fun v' => star (fact (v' = .int .i64 29) :: [DeskC d e7])) false := by
  have h := nextF d e6 21
  rw [show minP (e6.tick 21).held (fun j => (e6.th j).fin) 256 = 29 by decide +kernel] at h
  exact h
theorem x8 (d : Nat) : Ctr Try.prog 8 #[.pointer (some ⟨d, 0, none⟩), .int .i64 21] [DeskC d e7] (fun v' => ex fun x : Option Addr × Nat => fact (v' = .slice x.1 1 x.2) :: fact True :: [DeskC d e8]) false := by
  have h := heldAll d e7 21
  rw [show cntP (e7.tick 21).held 256 = 1 by decide +kernel] at h
  exact h
theorem x9 (d : Nat) : Ctr Try.prog 11 #[.pointer (some ⟨d, 0, none⟩), .int .i64 21, .int .i64 7, .int .i64 2] [DeskC d e8] (fun v' => star (fact (v' = .int .i64 0) :: [DeskC d e9])) false := by
  have h := giveOk d e8 21 7 2 (by omega) (by omega) (by decide +kernel) (by decide +kernel)
  rw [show ((e8.tick 21).th (7 : Int).toNat).who = 2 by decide +kernel, show ((e8.tick 21).th (7 : Int).toNat).tok = 2 by decide +kernel, show ((e8.tick 21).th (7 : Int).toNat).fin = 29 by decide +kernel] at h
  exact h
theorem x10 (d : Nat) : Ctr Try.prog 11 #[.pointer (some ⟨d, 0, none⟩), .int .i64 21, .int .i64 7, .int .i64 2] [DeskC d e9] (fun v' => star (fact (v' = .int .i64 7) :: [DeskC d e10])) false :=
  giveNo1 d e9 21 7 2 (by omega) (by omega) (by decide +kernel)
end Go.Proofs.Le
