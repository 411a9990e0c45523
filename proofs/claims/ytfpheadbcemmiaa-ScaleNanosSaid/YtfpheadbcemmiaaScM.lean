import Derived.Test.YtfpheadbcemmiaaScN
import Derived.Test.YtfpheadbcemmiaaRows
namespace Go.Proofs.Ytfpheadbcemmiaa.Sc
open Go.RowKit Go.Proofs.YtfpheadbcemmiaaW.PrintWords Go.Proofs.YtfpheadbcemmiaaW.PrintLast Go.Proofs.YtfpheadbcemmiaaW.PrintMore
open PSc
attribute [local go_sem] max2_int min2_int max_two min_two max_three min_three max_four min_four
set_option linter.unusedVariables false
set_option linter.unusedSimpArgs false

set_option maxHeartbeats 1000000 in
set_option maxRecDepth 100000 in
theorem div_any (lo y : Int) (w : World) (h0 : 0 ≤ lo) (h1 : lo < 18446744073709551616) (hy : 1 ≤ y) (hy1 : y < 18446744073709551616) :
    Calls Try.prog 21 #[.int .u64 0, .int .u64 lo, .int .u64 y] w fun e w' => e = .returned (.tuple #[.int .u64 (lo / y), .int .u64 (lo % y)]) ∧ Drawn0 w w' := by
  have hq0 : (y == 0) = false := by simp; omega
  have hq1 : decide (y ≤ 0) = false := by simp; omega
  go_enter Try.func21, Try.ntmps21
  go_wp2_with fail
  go_quiet (fail)
  go_wp2_with fail
  go_ret2
  exact ⟨rfl, ⟨_, rfl⟩⟩

def mulP (j : Nat) : Int := 1000000000 * 2 ^ j
theorem pow_bd (j : Nat) (h : j ≤ 32) : 1 ≤ 2 ^ j ∧ 2 ^ j ≤ 4294967296 := ⟨Nat.one_le_two_pow, by have := Nat.pow_le_pow_right (n := 2) (by omega) h; simpa using this⟩
theorem mulP_bd (j : Nat) (h : j ≤ 32) : 1000000000 ≤ mulP j ∧ mulP j ≤ 4294967296000000000 := by
  have := pow_bd j h
  have e : mulP j = ((1000000000 * 2 ^ j : Nat) : Int) := by simp [mulP]
  rw [e]; omega
theorem mul_make (j : Nat) (h : j ≤ 32) : bits_Mul64.f 1000000000 (IntKind.u64.wrap (2 ^ j)) = some (0, mulP j) := by
  have hp := pow_bd j h
  have e1 : ((2 : Int) ^ j) = ((2 ^ j : Nat) : Int) := by simp
  have e2 : mulP j = ((1000000000 * 2 ^ j : Nat) : Int) := by simp [mulP]
  rw [e2, e1, wrap_nat (by omega)]
  have := mul_nat 1000000000 (2 ^ j) (by decide) (by omega)
  have h1 : 1000000000 * 2 ^ j / 18446744073709551616 = 0 := by omega
  have h2 : 1000000000 * 2 ^ j % 18446744073709551616 = 1000000000 * 2 ^ j := by omega
  rw [h1, h2] at this
  exact this
def makeL (h : Int) : Nat → Int × Int × Bool
  | 0 => (0, 0, false)
  | k + 1 => if (1000000000 * 2 ^ k + h / 2) / h < 4294967296 then ((1000000000 * 2 ^ k + h / 2) / h, (k : Int), decide (0 < (1000000000 * 2 ^ k + h / 2) / h)) else makeL h k
def makeP (h : Int) : Int × Int × Bool := if h < 1 then (0, 0, false) else if 1099511627776 < h then (0, 0, false) else makeL h 33

theorem makeL_step (h : Int) (j : Nat) : makeL h (j + 1) = if (mulP j + h / 2) / h < 4294967296 then ((mulP j + h / 2) / h, (j : Int), decide (0 < (mulP j + h / 2) / h)) else makeL h j := rfl

theorem run_add {w : World} (x y : Int) (hx : 0 ≤ x) (hy : 0 ≤ y) : (callFunc 20 #[.int .u64 x, .int .u64 y, .int .u64 0]).run Try.prog w = .ok (.value (.tuple #[.int .u64 ((x + y) % 18446744073709551616), .int .u64 ((x + y) / 18446744073709551616)])) w := by
  rw [run_callFunc_extern Try.func20 (by kernel_rfl) (by kernel_rfl) (by kernel_rfl) (e := add64Entry) (by kernel_rfl), run_add64 x y 0 hx hy (by omega) (by omega)]
  simp only [Result.andThen, Int.add_zero]

set_option maxHeartbeats 1000000 in
set_option maxRecDepth 100000 in
theorem make_any (h : Int) (w : World) :
    Calls Try.prog 13 #[.int .i64 h] w fun e w' => e = .returned (.tuple #[.agg #[.int .i64 (makeP h).1, .int .i64 (makeP h).2.1], .bool (makeP h).2.2]) ∧ Below w.heap.size w w' := by
  by_cases c1 : h < 1
  · have e : makeP h = (0, 0, false) := by unfold makeP; rw [if_pos c1]
    rw [e]
    go_enter Try.func13, Try.ntmps13
    go_wp2_with fail
    refine bodyPost_ret (v := .tuple #[.agg #[.int .i64 0, .int .i64 0], .bool false]) (by simp [results, Try.results13, go_sem]) rfl ⟨rfl, below_alloc (Below.refl _ _) _⟩
  · by_cases c2 : 1099511627776 < h
    · have e : makeP h = (0, 0, false) := by unfold makeP; rw [if_neg c1, if_pos c2]
      rw [e]
      go_enter Try.func13, Try.ntmps13
      go_wp2_with fail
      refine bodyPost_ret (v := .tuple #[.agg #[.int .i64 0, .int .i64 0], .bool false]) (by simp [results, Try.results13, go_sem]) rfl ⟨rfl, below_alloc (Below.refl _ _) _⟩
    · have e : makeP h = makeL h 33 := by unfold makeP; rw [if_neg c1, if_neg c2]
      rw [e]
      have hh1 : 1 ≤ h := by omega
      have hh2 : h ≤ 1099511627776 := by omega
      go_enter Try.func13, Try.ntmps13
      go_wp2_with fail
      have HL := Aside0.mk (rfl : makeL h 33 = makeL h 33)
      go_loopw [4] (fun v wr => ∃ k : Nat, k ≤ 33 ∧ v = .int .i64 ((k : Int) - 1) ∧ Aside0 (makeL h k = makeL h 33) ∧ Aside0 (wr.heap[w.heap.size]? = some (.cells #[.int .i64 0, .int .i64 0] 23 (0, 0))) ∧ Aside0 (Below w.heap.size w wr)) (fun v _ => (intOf v + 1).toNat)
      case atStart => exact ⟨33, by omega, rfl, ⟨rfl⟩, ⟨heap_alloc_new w _⟩, ⟨below_alloc (Below.refl _ _) _⟩⟩
      case round =>
        obtain ⟨k, hk, rfl, HA, HBk, HB⟩ := hrel
        have hlt := lt_of_block HBk.out
        cases k with
        | zero =>
          have hc0 : wr.cell? ⟨w.heap.size, 0, none⟩ = some (.int .i64 0) := (blk_cell HBk.out 0).trans rfl
          have hc1 : wr.cell? ⟨w.heap.size, 1, none⟩ = some (.int .i64 0) := (blk_cell HBk.out 1).trans rfl
          have hf0 := blk_frozen HBk.out 0
          have hf1 := blk_frozen HBk.out 1
          go_wp2_with fail
          refine bodyPost_ret (v := .tuple #[.agg #[.int .i64 0, .int .i64 0], .bool false]) (by simp [results, Try.results13, go_sem, hlt, hc0, hc1]) rfl ⟨?_, ?_⟩
          · rw [← HA.out]; rfl
          · exact (HB.out.setCell (p := ⟨w.heap.size, 0, none⟩) (Nat.le_refl _) _).setCell (p := ⟨w.heap.size, 1, none⟩) (Nat.le_refl _) _
        | succ j =>
          have hj : ((j + 1 : Nat) : Int) - 1 = (j : Int) := by omega
          rw [hj]
          have hj0 : (0 : Int) ≤ (j : Int) := by omega
          have hj1 : (j : Int) ≤ 32 := by omega
          have hm := Aside0.mk (mul_make j (by omega))
          have hb := mulP_bd j (by omega)
          have hML := Aside0.mk (makeL_step h j)
          obtain ⟨X, hX⟩ : ∃ X : Int, mulP j = X := ⟨_, rfl⟩
          rw [hX] at hb hML hm
          clear hX hj
          go_wp2_with fail
          refine (bits_Mul64.calls _ _ 0 X wr hm.out).mono ?_
          rintro e w1 ⟨rfl, ⟨n1, rfl⟩⟩
          have hr : Aside0 _ := ⟨run_add (w := wr.drewN n1) X (h / 2) (by omega) (by omega)⟩
          have hx1 : (X + h / 2) % 18446744073709551616 = X + h / 2 := by omega
          have hx2 : (X + h / 2) / 18446744073709551616 = 0 := by omega
          have hr2 := hr.out
          rw [hx1, hx2] at hr2
          clear hx1 hx2 hr
          go_wp2_with fail
          refine (div_any (X + h / 2) h _ (by omega) (by omega) (by omega) (by omega)).mono ?_
          rintro e w2 ⟨rfl, ⟨n2, rfl⟩⟩
          have hq0 : 0 ≤ (X + h / 2) / h := Int.ediv_nonneg (by omega) (by omega)
          have hq1 : (X + h / 2) / h ≤ X + h / 2 := Int.ediv_le_self _ (by omega)
          obtain ⟨Qq, hQq⟩ : ∃ q, (X + h / 2) / h = q := ⟨_, rfl⟩
          rw [hQq] at hq0 hq1 hML ⊢
          clear hQq hr2
          have hlt2 : w.heap.size < wr.heap.size := hlt
          have hc0 : wr.cell? ⟨w.heap.size, 0, none⟩ = some (.int .i64 0) := (blk_cell HBk.out 0).trans rfl
          have hc1 : wr.cell? ⟨w.heap.size, 1, none⟩ = some (.int .i64 0) := (blk_cell HBk.out 1).trans rfl
          have hf0 : wr.frozen? ⟨w.heap.size, 0, none⟩ = false := blk_frozen HBk.out 0
          have hf1 : wr.frozen? ⟨w.heap.size, 1, none⟩ = false := blk_frozen HBk.out 1
          by_cases c3 : Qq < 4294967296
          · have hML2 := Aside0.mk (hML.out.trans (if_pos c3))
            go_wp2_with fail
            rw [← HA.out, hML2.out]
            refine bodyPost_ret (v := .tuple #[.agg #[.int .i64 Qq, .int .i64 j], .bool (decide (0 < Qq))]) (by simp [results, Try.results13, go_sem, hlt, hc0, hc1]) rfl ⟨rfl, ?_⟩
            exact ((pw_below_drewN HB.out _).setCell (p := ⟨w.heap.size, 0, none⟩) (Nat.le_refl _) _).setCell (p := ⟨w.heap.size, 1, none⟩) (Nat.le_refl _) _
          · have hML2 := Aside0.mk (hML.out.trans (if_neg c3))
            go_wp2_with fail
            go_roundw
            case rel => exact ⟨j, by omega, by go_num, ⟨hML2.out.symm.trans HA.out⟩, ⟨HBk.out⟩, ⟨pw_below_drewN HB.out _⟩⟩
            case measure => simp [intOf]
end Go.Proofs.Ytfpheadbcemmiaa.Sc
