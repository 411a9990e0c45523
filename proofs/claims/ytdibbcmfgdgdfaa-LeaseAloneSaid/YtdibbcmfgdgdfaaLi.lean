import Derived.Test.YtdibbcmfgdgdfaaLh
namespace Go.Proofs.Ytdibbcmfgdgdfaa.Le
open Go.RowKit Go.Proofs.YtdibbcmfgdgdfaaW.PrintWords Go.Proofs.YtdibbcmfgdgdfaaW.PrintLast Go.Proofs.YtdibbcmfgdgdfaaW.PrintMore
open PLe
attribute [local go_sem] max2_int min2_int max_two min_two max_three min_three max_four min_four
set_option linter.unusedVariables false
set_option linter.unusedSimpArgs false

set_option maxHeartbeats 400000 in
theorem new_low (gr : Int) (h : gr < 0) (w : World) : Calls Try.prog 6 #[.int .i64 gr] w fun e w' => e = .returned (.pointer none) ∧ w = w' := by
  go_enter Try.func6, Try.ntmps6
  go_wp2_with fail
  go_ret
  exact ⟨rfl, rfl⟩
set_option maxHeartbeats 400000 in
theorem take_nil (now th who long : Int) (w : World) : Calls Try.prog 9 #[.pointer none, .int .i64 now, .int .i64 th, .int .i64 who, .int .i64 long] w fun e w' => e = .returned (.tuple #[hold 0 0 0, .int .i64 1]) ∧ Below w.heap.size w w' := by
  go_enter Try.func9, Try.ntmps9
  go_wp2_with (first | (go_at_call 14; refine (at_nil _ _ _).mono ?_; rintro e w1 ⟨rfl, rfl⟩) | (go_at_call 16; refine (missing_nil _).mono ?_; rintro e w1 ⟨rfl, rfl⟩))
  refine bodyPost_ret (v := .tuple #[.agg #[.int .i64 0, .int .i64 0, .int .i64 0], .int .i64 1]) (by simp [results, Try.results9, go_sem]) rfl ⟨rfl, ?_⟩
  exact below_alloc (Below.refl _ _) _

def f0 : Dk := newD 3 256
def f1 : Dk := takeS (tickD f0 10) 7 1 5
def f2 : Dk := tickD f1 14
def f3 : Dk := tickD f2 16
def f4 : Dk := takeS (tickD f3 18) 7 2 5
def f5 : Dk := renewS (tickD f4 20) 7 9
def f6 : Dk := tickD f5 21
def f7 : Dk := giveS (tickD f6 21) 7
theorem c1 : takeB (tickD f0 10) 7 1 = false := by decide +kernel
theorem c2 : takeB (tickD f1 14) 7 2 = true := by decide +kernel
theorem c3 : takeB (tickD f2 16) 7 2 = true := by decide +kernel
theorem c4 : takeB (tickD f3 18) 7 2 = false := by decide +kernel
theorem c5 : heldB (tickD f4 20) 7 = true := by decide +kernel
theorem c6 : heldB (tickD f5 21) 7 = true := by decide +kernel
theorem c7 : heldB (tickD f7 21) 7 = false := by decide +kernel
theorem c8 : nextV f6 256 = 29 := by decide +kernel
theorem c9 : (heldL f6 256).length = 1 := by decide +kernel
theorem t6 : tickD f6 21 = f6 := tickD_twice f5 21
theorem t5 : decide (f5.tok 7 = 2) = true := by decide +kernel
theorem t7 : f6.tok 7 = 2 := by decide +kernel
theorem e1 : f0.tok 7 + 1 = 1 ∧ addI (tickD f0 10).now 5 = 15 := by decide +kernel
theorem e4 : f3.tok 7 + 1 = 2 ∧ addI (tickD f3 18).now 5 = 23 ∧ 0 ≤ f3.tok 7 ∧ f3.tok 7 ≤ 1000000 ∧ 0 ≤ f0.tok 7 ∧ f0.tok 7 ≤ 1000000 := by decide +kernel
theorem e5 : f4.who 7 = 2 ∧ f4.tok 7 = 2 ∧ mx (f4.en 7) (addI (tickD f4 20).now 9) = 29 ∧ f5.tok 7 = 2 ∧ f6.tok 7 = 2 := by decide +kernel

theorem belowO {w W W2 : World} {g : Nat} (h : Below w.heap.size w W) (k : Only W W2 g) (hg : w.heap.size ≤ g) : Below w.heap.size w W2 :=
  ⟨k.2.1.trans h.os, k.2.2.1.trans h.tape, k.2.2.2.1.trans h.output, Nat.le_trans h.size k.1, fun j hj => (k.2.2.2.2 j (Nat.lt_of_lt_of_le hj h.size) (by omega)).trans (h.block j hj)⟩
theorem keepB {W W2 : World} {b : Nat} {o : Obj} (h : W.heap[b]? = some o) (k : Below W.heap.size W W2) : W2.heap[b]? = some o := (k.block b (lt_of_block h)).trans h
set_option maxHeartbeats 4000000 in
set_option maxRecDepth 100000 in
theorem fixed_any (w : World) : Calls Try.prog 5 #[] w fun e w' => e = .returned (.bool true) ∧ Below w.heap.size w w' := by
  go_enter Try.func5, Try.ntmps5
  go_wp2_with fail
  refine (new_any 3 w (by decide) (by decide)).mono ?_
  rintro e w1 ⟨g, rfl, hg, hD, hB⟩
  have HB := Aside0.mk hB
  have HD : Aside0 (Dsk w1 g f0) := ⟨hD⟩
  clear hD hB
  go_wp2_with fail
  refine (take_ok g f0 10 1 5 7 (by decide) (by decide) (by decide) (by decide) _ HD.out c1 ⟨e4.2.2.2.2.1, e4.2.2.2.2.2⟩).mono ?_
  rintro e w2 ⟨rfl, hD, hO⟩
  rw [e1.1, e1.2]
  replace HB : Aside0 (Below w.heap.size w w2) := ⟨belowO HB.out hO hg⟩
  replace HD : Aside0 (Dsk w2 g f1) := ⟨hD⟩
  clear hO
  have HAn : w2.heap.size ≠ g := Nat.ne_of_gt hD.lt
  clear hD
  unfold hold
  go_wp2_with fail
  replace HD : Aside0 (Dsk (w2.alloc (.cells #[.int .i64 1, .int .i64 1, .int .i64 15] 27)) g f1) := ⟨HD.out.alloc _⟩
  replace HB : Aside0 (Below w.heap.size w (w2.alloc (.cells #[.int .i64 1, .int .i64 1, .int .i64 15] 27))) := ⟨below_alloc HB.out _⟩
  have HA : Aside0 ((w2.alloc (.cells #[.int .i64 1, .int .i64 1, .int .i64 15] 27)).heap[w2.heap.size]? = some (.cells #[.int .i64 1, .int .i64 1, .int .i64 15] 27)) := ⟨heap_alloc_new _ _⟩
  refine (take_busy g f1 14 2 5 7 (by decide) (by decide) (by decide) (by decide) _ HD.out c2).mono ?_
  rintro e w3 ⟨rfl, hD, hO⟩
  have h_A : w2.heap.size ≠ g := HAn
  replace HA : Aside0 (w3.heap[w2.heap.size]? = some (.cells #[.int .i64 1, .int .i64 1, .int .i64 15] 27)) := ⟨hO.blk HA.out h_A⟩
  clear h_A
  replace HB : Aside0 (Below w.heap.size w w3) := ⟨belowO HB.out hO hg⟩
  replace HD : Aside0 (Dsk w3 g f2) := ⟨hD⟩
  clear hO
  clear hD
  unfold hold
  go_wp2_with fail
  replace HA : Aside0 ((w3.alloc (.cells #[.int .i64 0, .int .i64 0, .int .i64 0] 27)).heap[w2.heap.size]? = some (.cells #[.int .i64 1, .int .i64 1, .int .i64 15] 27)) := ⟨blk_alloc HA.out⟩
  replace HD : Aside0 (Dsk (w3.alloc (.cells #[.int .i64 0, .int .i64 0, .int .i64 0] 27)) g f2) := ⟨HD.out.alloc _⟩
  replace HB : Aside0 (Below w.heap.size w (w3.alloc (.cells #[.int .i64 0, .int .i64 0, .int .i64 0] 27))) := ⟨below_alloc HB.out _⟩
  refine (take_busy g f2 16 2 5 7 (by decide) (by decide) (by decide) (by decide) _ HD.out c3).mono ?_
  rintro e w4 ⟨rfl, hD, hO⟩
  have h_A : w2.heap.size ≠ g := HAn
  replace HA : Aside0 (w4.heap[w2.heap.size]? = some (.cells #[.int .i64 1, .int .i64 1, .int .i64 15] 27)) := ⟨hO.blk HA.out h_A⟩
  clear h_A
  replace HB : Aside0 (Below w.heap.size w w4) := ⟨belowO HB.out hO hg⟩
  replace HD : Aside0 (Dsk w4 g f3) := ⟨hD⟩
  clear hO
  clear hD
  unfold hold
  go_wp2_with fail
  replace HA : Aside0 ((w4.alloc (.cells #[.int .i64 0, .int .i64 0, .int .i64 0] 27)).heap[w2.heap.size]? = some (.cells #[.int .i64 1, .int .i64 1, .int .i64 15] 27)) := ⟨blk_alloc HA.out⟩
  replace HD : Aside0 (Dsk (w4.alloc (.cells #[.int .i64 0, .int .i64 0, .int .i64 0] 27)) g f3) := ⟨HD.out.alloc _⟩
  replace HB : Aside0 (Below w.heap.size w (w4.alloc (.cells #[.int .i64 0, .int .i64 0, .int .i64 0] 27))) := ⟨below_alloc HB.out _⟩
  refine (take_ok g f3 18 2 5 7 (by decide) (by decide) (by decide) (by decide) _ HD.out c4 ⟨e4.2.2.1, e4.2.2.2.1⟩).mono ?_
  rintro e w5 ⟨rfl, hD, hO⟩
  rw [e4.1, e4.2.1]
  have h_A : w2.heap.size ≠ g := HAn
  replace HA : Aside0 (w5.heap[w2.heap.size]? = some (.cells #[.int .i64 1, .int .i64 1, .int .i64 15] 27)) := ⟨hO.blk HA.out h_A⟩
  clear h_A
  replace HB : Aside0 (Below w.heap.size w w5) := ⟨belowO HB.out hO hg⟩
  replace HD : Aside0 (Dsk w5 g f4) := ⟨hD⟩
  clear hO
  have HEn : w5.heap.size ≠ g := Nat.ne_of_gt hD.lt
  clear hD
  unfold hold
  go_wp2_with fail
  replace HA : Aside0 ((w5.alloc (.cells #[.int .i64 2, .int .i64 2, .int .i64 23] 27)).heap[w2.heap.size]? = some (.cells #[.int .i64 1, .int .i64 1, .int .i64 15] 27)) := ⟨blk_alloc HA.out⟩
  replace HD : Aside0 (Dsk (w5.alloc (.cells #[.int .i64 2, .int .i64 2, .int .i64 23] 27)) g f4) := ⟨HD.out.alloc _⟩
  replace HB : Aside0 (Below w.heap.size w (w5.alloc (.cells #[.int .i64 2, .int .i64 2, .int .i64 23] 27))) := ⟨below_alloc HB.out _⟩
  have HE : Aside0 ((w5.alloc (.cells #[.int .i64 2, .int .i64 2, .int .i64 23] 27)).heap[w5.heap.size]? = some (.cells #[.int .i64 2, .int .i64 2, .int .i64 23] 27)) := ⟨heap_alloc_new _ _⟩
  refine (renew_yes g f4 20 2 9 7 (by decide) (by decide) (by decide) _ HD.out c5 e5.2.1).mono ?_
  rintro e w6 ⟨rfl, hD, hO⟩
  rw [e5.1, e5.2.1, e5.2.2.1]
  have h_A : w2.heap.size ≠ g := HAn
  replace HA : Aside0 (w6.heap[w2.heap.size]? = some (.cells #[.int .i64 1, .int .i64 1, .int .i64 15] 27)) := ⟨hO.blk HA.out h_A⟩
  clear h_A
  have h_E : w5.heap.size ≠ g := HEn
  replace HE : Aside0 (w6.heap[w5.heap.size]? = some (.cells #[.int .i64 2, .int .i64 2, .int .i64 23] 27)) := ⟨hO.blk HE.out h_E⟩
  clear h_E
  replace HB : Aside0 (Below w.heap.size w w6) := ⟨belowO HB.out hO hg⟩
  replace HD : Aside0 (Dsk w6 g f5) := ⟨hD⟩
  clear hO
  have HCn : w6.heap.size ≠ g := Nat.ne_of_gt hD.lt
  clear hD
  unfold hold
  go_wp2_with fail
  replace HA : Aside0 ((w6.alloc (.cells #[.int .i64 2, .int .i64 2, .int .i64 29] 27)).heap[w2.heap.size]? = some (.cells #[.int .i64 1, .int .i64 1, .int .i64 15] 27)) := ⟨blk_alloc HA.out⟩
  replace HE : Aside0 ((w6.alloc (.cells #[.int .i64 2, .int .i64 2, .int .i64 29] 27)).heap[w5.heap.size]? = some (.cells #[.int .i64 2, .int .i64 2, .int .i64 23] 27)) := ⟨blk_alloc HE.out⟩
  replace HD : Aside0 (Dsk (w6.alloc (.cells #[.int .i64 2, .int .i64 2, .int .i64 29] 27)) g f5) := ⟨HD.out.alloc _⟩
  replace HB : Aside0 (Below w.heap.size w (w6.alloc (.cells #[.int .i64 2, .int .i64 2, .int .i64 29] 27))) := ⟨below_alloc HB.out _⟩
  have HC : Aside0 ((w6.alloc (.cells #[.int .i64 2, .int .i64 2, .int .i64 29] 27)).heap[w6.heap.size]? = some (.cells #[.int .i64 2, .int .i64 2, .int .i64 29] 27)) := ⟨heap_alloc_new _ _⟩
  refine (take_nil 1 1 1 1 _).mono ?_
  rintro e w7 ⟨rfl, hO⟩
  replace HA : Aside0 (w7.heap[w2.heap.size]? = some (.cells #[.int .i64 1, .int .i64 1, .int .i64 15] 27)) := ⟨keepB HA.out hO⟩
  have c_A0 : w7.cell? ⟨w2.heap.size, 0, none⟩ = some (.int .i64 1) := by rw [blk_cell HA.out]; rfl
  have c_A1 : w7.cell? ⟨w2.heap.size, 1, none⟩ = some (.int .i64 1) := by rw [blk_cell HA.out]; rfl
  have c_A2 : w7.cell? ⟨w2.heap.size, 2, none⟩ = some (.int .i64 15) := by rw [blk_cell HA.out]; rfl
  have l_A : w2.heap.size < w7.heap.size := lt_of_block HA.out
  replace HE : Aside0 (w7.heap[w5.heap.size]? = some (.cells #[.int .i64 2, .int .i64 2, .int .i64 23] 27)) := ⟨keepB HE.out hO⟩
  have c_E0 : w7.cell? ⟨w5.heap.size, 0, none⟩ = some (.int .i64 2) := by rw [blk_cell HE.out]; rfl
  have c_E1 : w7.cell? ⟨w5.heap.size, 1, none⟩ = some (.int .i64 2) := by rw [blk_cell HE.out]; rfl
  have c_E2 : w7.cell? ⟨w5.heap.size, 2, none⟩ = some (.int .i64 23) := by rw [blk_cell HE.out]; rfl
  have l_E : w5.heap.size < w7.heap.size := lt_of_block HE.out
  replace HC : Aside0 (w7.heap[w6.heap.size]? = some (.cells #[.int .i64 2, .int .i64 2, .int .i64 29] 27)) := ⟨keepB HC.out hO⟩
  have c_C0 : w7.cell? ⟨w6.heap.size, 0, none⟩ = some (.int .i64 2) := by rw [blk_cell HC.out]; rfl
  have c_C1 : w7.cell? ⟨w6.heap.size, 1, none⟩ = some (.int .i64 2) := by rw [blk_cell HC.out]; rfl
  have c_C2 : w7.cell? ⟨w6.heap.size, 2, none⟩ = some (.int .i64 29) := by rw [blk_cell HC.out]; rfl
  have l_C : w6.heap.size < w7.heap.size := lt_of_block HC.out
  replace HD : Aside0 (Dsk w7 g f5) := ⟨HD.out.below hO⟩
  replace HB : Aside0 (Below w.heap.size w w7) := ⟨below_then HB.out HB.out.size hO⟩
  clear hO
  unfold hold
  go_wp2_with fail
  replace HD : Aside0 (Dsk (w7.alloc (.cells #[.int .i64 0, .int .i64 0, .int .i64 0] 27)) g f5) := ⟨HD.out.alloc _⟩
  replace HB : Aside0 (Below w.heap.size w (w7.alloc (.cells #[.int .i64 0, .int .i64 0, .int .i64 0] 27))) := ⟨below_alloc HB.out _⟩
  replace HA : Aside0 ((w7.alloc (.cells #[.int .i64 0, .int .i64 0, .int .i64 0] 27)).heap[w2.heap.size]? = some (.cells #[.int .i64 1, .int .i64 1, .int .i64 15] 27)) := ⟨blk_alloc HA.out⟩
  replace HE : Aside0 ((w7.alloc (.cells #[.int .i64 0, .int .i64 0, .int .i64 0] 27)).heap[w5.heap.size]? = some (.cells #[.int .i64 2, .int .i64 2, .int .i64 23] 27)) := ⟨blk_alloc HE.out⟩
  replace HC : Aside0 ((w7.alloc (.cells #[.int .i64 0, .int .i64 0, .int .i64 0] 27)).heap[w6.heap.size]? = some (.cells #[.int .i64 2, .int .i64 2, .int .i64 29] 27)) := ⟨blk_alloc HC.out⟩
  refine (right_yes g f5 21 2 7 (by decide) _ HD.out c6).mono ?_
  rintro e w8 ⟨rfl, hD, hO⟩
  rw [t5]
  replace HB : Aside0 (Below w.heap.size w w8) := ⟨belowO HB.out hO hg⟩
  replace HD : Aside0 (Dsk w8 g f6) := ⟨hD⟩
  have h_A : w2.heap.size ≠ g := HAn
  replace HA : Aside0 (w8.heap[w2.heap.size]? = some (.cells #[.int .i64 1, .int .i64 1, .int .i64 15] 27)) := ⟨hO.blk HA.out h_A⟩
  clear h_A c_A0 c_A1 c_A2 l_A
  have c_A0 : w8.cell? ⟨w2.heap.size, 0, none⟩ = some (.int .i64 1) := by rw [blk_cell HA.out]; rfl
  have c_A1 : w8.cell? ⟨w2.heap.size, 1, none⟩ = some (.int .i64 1) := by rw [blk_cell HA.out]; rfl
  have c_A2 : w8.cell? ⟨w2.heap.size, 2, none⟩ = some (.int .i64 15) := by rw [blk_cell HA.out]; rfl
  have l_A : w2.heap.size < w8.heap.size := lt_of_block HA.out
  have h_E : w5.heap.size ≠ g := HEn
  replace HE : Aside0 (w8.heap[w5.heap.size]? = some (.cells #[.int .i64 2, .int .i64 2, .int .i64 23] 27)) := ⟨hO.blk HE.out h_E⟩
  clear h_E c_E0 c_E1 c_E2 l_E
  have c_E0 : w8.cell? ⟨w5.heap.size, 0, none⟩ = some (.int .i64 2) := by rw [blk_cell HE.out]; rfl
  have c_E1 : w8.cell? ⟨w5.heap.size, 1, none⟩ = some (.int .i64 2) := by rw [blk_cell HE.out]; rfl
  have c_E2 : w8.cell? ⟨w5.heap.size, 2, none⟩ = some (.int .i64 23) := by rw [blk_cell HE.out]; rfl
  have l_E : w5.heap.size < w8.heap.size := lt_of_block HE.out
  have h_C : w6.heap.size ≠ g := HCn
  replace HC : Aside0 (w8.heap[w6.heap.size]? = some (.cells #[.int .i64 2, .int .i64 2, .int .i64 29] 27)) := ⟨hO.blk HC.out h_C⟩
  clear h_C c_C0 c_C1 c_C2 l_C
  have c_C0 : w8.cell? ⟨w6.heap.size, 0, none⟩ = some (.int .i64 2) := by rw [blk_cell HC.out]; rfl
  have c_C1 : w8.cell? ⟨w6.heap.size, 1, none⟩ = some (.int .i64 2) := by rw [blk_cell HC.out]; rfl
  have c_C2 : w8.cell? ⟨w6.heap.size, 2, none⟩ = some (.int .i64 29) := by rw [blk_cell HC.out]; rfl
  have l_C : w6.heap.size < w8.heap.size := lt_of_block HC.out
  clear hO hD
  go_wp2_with fail
  refine (next_any g f6 21 _ HD.out).mono ?_
  rintro e w9 ⟨rfl, hD, hO⟩
  rw [t6] at hD
  rw [t6, c8]
  replace HB : Aside0 (Below w.heap.size w w9) := ⟨belowO HB.out hO hg⟩
  replace HD : Aside0 (Dsk w9 g f6) := ⟨hD⟩
  have h_A : w2.heap.size ≠ g := HAn
  replace HA : Aside0 (w9.heap[w2.heap.size]? = some (.cells #[.int .i64 1, .int .i64 1, .int .i64 15] 27)) := ⟨hO.blk HA.out h_A⟩
  clear h_A c_A0 c_A1 c_A2 l_A
  have c_A0 : w9.cell? ⟨w2.heap.size, 0, none⟩ = some (.int .i64 1) := by rw [blk_cell HA.out]; rfl
  have c_A1 : w9.cell? ⟨w2.heap.size, 1, none⟩ = some (.int .i64 1) := by rw [blk_cell HA.out]; rfl
  have c_A2 : w9.cell? ⟨w2.heap.size, 2, none⟩ = some (.int .i64 15) := by rw [blk_cell HA.out]; rfl
  have l_A : w2.heap.size < w9.heap.size := lt_of_block HA.out
  have h_E : w5.heap.size ≠ g := HEn
  replace HE : Aside0 (w9.heap[w5.heap.size]? = some (.cells #[.int .i64 2, .int .i64 2, .int .i64 23] 27)) := ⟨hO.blk HE.out h_E⟩
  clear h_E c_E0 c_E1 c_E2 l_E
  have c_E0 : w9.cell? ⟨w5.heap.size, 0, none⟩ = some (.int .i64 2) := by rw [blk_cell HE.out]; rfl
  have c_E1 : w9.cell? ⟨w5.heap.size, 1, none⟩ = some (.int .i64 2) := by rw [blk_cell HE.out]; rfl
  have c_E2 : w9.cell? ⟨w5.heap.size, 2, none⟩ = some (.int .i64 23) := by rw [blk_cell HE.out]; rfl
  have l_E : w5.heap.size < w9.heap.size := lt_of_block HE.out
  have h_C : w6.heap.size ≠ g := HCn
  replace HC : Aside0 (w9.heap[w6.heap.size]? = some (.cells #[.int .i64 2, .int .i64 2, .int .i64 29] 27)) := ⟨hO.blk HC.out h_C⟩
  clear h_C c_C0 c_C1 c_C2 l_C
  have c_C0 : w9.cell? ⟨w6.heap.size, 0, none⟩ = some (.int .i64 2) := by rw [blk_cell HC.out]; rfl
  have c_C1 : w9.cell? ⟨w6.heap.size, 1, none⟩ = some (.int .i64 2) := by rw [blk_cell HC.out]; rfl
  have c_C2 : w9.cell? ⟨w6.heap.size, 2, none⟩ = some (.int .i64 29) := by rw [blk_cell HC.out]; rfl
  have l_C : w6.heap.size < w9.heap.size := lt_of_block HC.out
  clear hO hD
  go_wp2_with fail
  refine (heldl_any g f6 21 _ HD.out).mono ?_
  rintro e w10 ⟨A, c, rfl, hD, hO⟩
  rw [t6] at hD
  rw [t6, c9]
  replace HB : Aside0 (Below w.heap.size w w10) := ⟨belowO HB.out hO hg⟩
  replace HD : Aside0 (Dsk w10 g f6) := ⟨hD⟩
  have h_A : w2.heap.size ≠ g := HAn
  replace HA : Aside0 (w10.heap[w2.heap.size]? = some (.cells #[.int .i64 1, .int .i64 1, .int .i64 15] 27)) := ⟨hO.blk HA.out h_A⟩
  clear h_A c_A0 c_A1 c_A2 l_A
  have c_A0 : w10.cell? ⟨w2.heap.size, 0, none⟩ = some (.int .i64 1) := by rw [blk_cell HA.out]; rfl
  have c_A1 : w10.cell? ⟨w2.heap.size, 1, none⟩ = some (.int .i64 1) := by rw [blk_cell HA.out]; rfl
  have c_A2 : w10.cell? ⟨w2.heap.size, 2, none⟩ = some (.int .i64 15) := by rw [blk_cell HA.out]; rfl
  have l_A : w2.heap.size < w10.heap.size := lt_of_block HA.out
  have h_E : w5.heap.size ≠ g := HEn
  replace HE : Aside0 (w10.heap[w5.heap.size]? = some (.cells #[.int .i64 2, .int .i64 2, .int .i64 23] 27)) := ⟨hO.blk HE.out h_E⟩
  clear h_E c_E0 c_E1 c_E2 l_E
  have c_E0 : w10.cell? ⟨w5.heap.size, 0, none⟩ = some (.int .i64 2) := by rw [blk_cell HE.out]; rfl
  have c_E1 : w10.cell? ⟨w5.heap.size, 1, none⟩ = some (.int .i64 2) := by rw [blk_cell HE.out]; rfl
  have c_E2 : w10.cell? ⟨w5.heap.size, 2, none⟩ = some (.int .i64 23) := by rw [blk_cell HE.out]; rfl
  have l_E : w5.heap.size < w10.heap.size := lt_of_block HE.out
  have h_C : w6.heap.size ≠ g := HCn
  replace HC : Aside0 (w10.heap[w6.heap.size]? = some (.cells #[.int .i64 2, .int .i64 2, .int .i64 29] 27)) := ⟨hO.blk HC.out h_C⟩
  clear h_C c_C0 c_C1 c_C2 l_C
  have c_C0 : w10.cell? ⟨w6.heap.size, 0, none⟩ = some (.int .i64 2) := by rw [blk_cell HC.out]; rfl
  have c_C1 : w10.cell? ⟨w6.heap.size, 1, none⟩ = some (.int .i64 2) := by rw [blk_cell HC.out]; rfl
  have c_C2 : w10.cell? ⟨w6.heap.size, 2, none⟩ = some (.int .i64 29) := by rw [blk_cell HC.out]; rfl
  have l_C : w6.heap.size < w10.heap.size := lt_of_block HC.out
  clear hO hD
  go_wp2_with fail
  refine (give_yes g f6 21 2 7 (by decide) _ HD.out (t6.symm ▸ c6) t7).mono ?_
  rintro e w11 ⟨rfl, hD, hO⟩
  replace HB : Aside0 (Below w.heap.size w w11) := ⟨belowO HB.out hO hg⟩
  replace HD : Aside0 (Dsk w11 g f7) := ⟨hD⟩
  have h_A : w2.heap.size ≠ g := HAn
  replace HA : Aside0 (w11.heap[w2.heap.size]? = some (.cells #[.int .i64 1, .int .i64 1, .int .i64 15] 27)) := ⟨hO.blk HA.out h_A⟩
  clear h_A c_A0 c_A1 c_A2 l_A
  have c_A0 : w11.cell? ⟨w2.heap.size, 0, none⟩ = some (.int .i64 1) := by rw [blk_cell HA.out]; rfl
  have c_A1 : w11.cell? ⟨w2.heap.size, 1, none⟩ = some (.int .i64 1) := by rw [blk_cell HA.out]; rfl
  have c_A2 : w11.cell? ⟨w2.heap.size, 2, none⟩ = some (.int .i64 15) := by rw [blk_cell HA.out]; rfl
  have l_A : w2.heap.size < w11.heap.size := lt_of_block HA.out
  have h_E : w5.heap.size ≠ g := HEn
  replace HE : Aside0 (w11.heap[w5.heap.size]? = some (.cells #[.int .i64 2, .int .i64 2, .int .i64 23] 27)) := ⟨hO.blk HE.out h_E⟩
  clear h_E c_E0 c_E1 c_E2 l_E
  have c_E0 : w11.cell? ⟨w5.heap.size, 0, none⟩ = some (.int .i64 2) := by rw [blk_cell HE.out]; rfl
  have c_E1 : w11.cell? ⟨w5.heap.size, 1, none⟩ = some (.int .i64 2) := by rw [blk_cell HE.out]; rfl
  have c_E2 : w11.cell? ⟨w5.heap.size, 2, none⟩ = some (.int .i64 23) := by rw [blk_cell HE.out]; rfl
  have l_E : w5.heap.size < w11.heap.size := lt_of_block HE.out
  have h_C : w6.heap.size ≠ g := HCn
  replace HC : Aside0 (w11.heap[w6.heap.size]? = some (.cells #[.int .i64 2, .int .i64 2, .int .i64 29] 27)) := ⟨hO.blk HC.out h_C⟩
  clear h_C c_C0 c_C1 c_C2 l_C
  have c_C0 : w11.cell? ⟨w6.heap.size, 0, none⟩ = some (.int .i64 2) := by rw [blk_cell HC.out]; rfl
  have c_C1 : w11.cell? ⟨w6.heap.size, 1, none⟩ = some (.int .i64 2) := by rw [blk_cell HC.out]; rfl
  have c_C2 : w11.cell? ⟨w6.heap.size, 2, none⟩ = some (.int .i64 29) := by rw [blk_cell HC.out]; rfl
  have l_C : w6.heap.size < w11.heap.size := lt_of_block HC.out
  clear hO hD
  go_wp2_with fail
  refine (give_no1 g f7 21 2 7 (by decide) _ HD.out c7).mono ?_
  rintro e w12 ⟨rfl, hD, hO⟩
  replace HB : Aside0 (Below w.heap.size w w12) := ⟨belowO HB.out hO hg⟩
  replace HD : Aside0 (Dsk w12 g (tickD f7 21)) := ⟨hD⟩
  have h_A : w2.heap.size ≠ g := HAn
  replace HA : Aside0 (w12.heap[w2.heap.size]? = some (.cells #[.int .i64 1, .int .i64 1, .int .i64 15] 27)) := ⟨hO.blk HA.out h_A⟩
  clear h_A c_A0 c_A1 c_A2 l_A
  have c_A0 : w12.cell? ⟨w2.heap.size, 0, none⟩ = some (.int .i64 1) := by rw [blk_cell HA.out]; rfl
  have c_A1 : w12.cell? ⟨w2.heap.size, 1, none⟩ = some (.int .i64 1) := by rw [blk_cell HA.out]; rfl
  have c_A2 : w12.cell? ⟨w2.heap.size, 2, none⟩ = some (.int .i64 15) := by rw [blk_cell HA.out]; rfl
  have l_A : w2.heap.size < w12.heap.size := lt_of_block HA.out
  have h_E : w5.heap.size ≠ g := HEn
  replace HE : Aside0 (w12.heap[w5.heap.size]? = some (.cells #[.int .i64 2, .int .i64 2, .int .i64 23] 27)) := ⟨hO.blk HE.out h_E⟩
  clear h_E c_E0 c_E1 c_E2 l_E
  have c_E0 : w12.cell? ⟨w5.heap.size, 0, none⟩ = some (.int .i64 2) := by rw [blk_cell HE.out]; rfl
  have c_E1 : w12.cell? ⟨w5.heap.size, 1, none⟩ = some (.int .i64 2) := by rw [blk_cell HE.out]; rfl
  have c_E2 : w12.cell? ⟨w5.heap.size, 2, none⟩ = some (.int .i64 23) := by rw [blk_cell HE.out]; rfl
  have l_E : w5.heap.size < w12.heap.size := lt_of_block HE.out
  have h_C : w6.heap.size ≠ g := HCn
  replace HC : Aside0 (w12.heap[w6.heap.size]? = some (.cells #[.int .i64 2, .int .i64 2, .int .i64 29] 27)) := ⟨hO.blk HC.out h_C⟩
  clear h_C c_C0 c_C1 c_C2 l_C
  have c_C0 : w12.cell? ⟨w6.heap.size, 0, none⟩ = some (.int .i64 2) := by rw [blk_cell HC.out]; rfl
  have c_C1 : w12.cell? ⟨w6.heap.size, 1, none⟩ = some (.int .i64 2) := by rw [blk_cell HC.out]; rfl
  have c_C2 : w12.cell? ⟨w6.heap.size, 2, none⟩ = some (.int .i64 29) := by rw [blk_cell HC.out]; rfl
  have l_C : w6.heap.size < w12.heap.size := lt_of_block HC.out
  clear hO hD
  go_wp2_with fail
  refine (new_low (-1) (by decide) _).mono ?_
  rintro e w13 ⟨rfl, rfl⟩
  go_wp2_with fail
  refine (next_nil 1 _).mono ?_
  rintro e w14 ⟨rfl, hO⟩
  replace HB := below_then HB.out HB.out.size hO
  go_wp2_with fail
  go_ret
  exact ⟨rfl, HB⟩
end Go.Proofs.Ytdibbcmfgdgdfaa.Le
