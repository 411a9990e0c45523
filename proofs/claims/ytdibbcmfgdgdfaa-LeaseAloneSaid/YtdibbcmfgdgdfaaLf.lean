import Derived.Test.YtdibbcmfgdgdfaaLe
namespace Go.Proofs.Ytdibbcmfgdgdfaa.Le
open Go.RowKit Go.Proofs.YtdibbcmfgdgdfaaW.PrintWords Go.Proofs.YtdibbcmfgdgdfaaW.PrintLast Go.Proofs.YtdibbcmfgdgdfaaW.PrintMore
open PLe
attribute [local go_sem] max2_int min2_int max_two min_two max_three min_three max_four min_four
set_option linter.unusedVariables false
set_option linter.unusedSimpArgs false

def renewS (s : Dk) (i : Nat) (long : Int) : Dk := { s with en := up s.en i (mx (s.en i) (addI s.now long)) }
def giveS (s : Dk) (i : Nat) : Dk := { s with giv := up s.giv i true }
set_option maxHeartbeats 2000000 in
set_option maxRecDepth 100000 in
theorem renew_no1 (g : Nat) (s : Dk) (now tk long : Int) (i : Nat) (hi : i < 256) (hl0 : 1 ≤ long) (hl1 : long ≤ 1099511627776) (w : World) (hD : Dsk w g s) (hh : heldB (tickD s now) i = false) :
    Calls Try.prog 10 #[.pointer (some ⟨g, 0, none⟩), .int .i64 now, .int .i64 (i : Int), .int .i64 tk, .int .i64 long] w fun e w' =>
      e = .returned (.tuple #[hold 0 0 0, .int .i64 7]) ∧ Dsk w' g (tickD s now) ∧ Only w w' g := by
  have HD := Aside0.mk hD
  have HH := Aside0.mk hh
  have hlt := hD.lt
  clear hD hh
  go_enter Try.func10, Try.ntmps10
  go_wp2_with fail
  refine (at_any g s now i hi _ (HD.out.alloc _)).mono ?_
  rintro e w1 ⟨rfl, hD1, hg1⟩
  have HD1 := Aside0.mk hD1
  have HB1 := Aside0.mk (hg1.block w.heap.size (by simp) (by simp; omega))
  have HO1 : Aside0 (Only w w1 g) := ⟨((Only.refl w g).alloc _).trans (Only.of_grown hg1)⟩
  have HRB := Aside0.mk (HB1.out.trans (heap_alloc_new w (.cells #[.int .i64 0, .int .i64 0, .int .i64 0] 27)))
  have hne : g ≠ w.heap.size := by omega
  clear hD1 hg1 HB1 HD
  go_wp2_with fail
  refine (held_any g (tickD s now) i hi w1 HD1.out).mono ?_
  rintro e w2 ⟨rfl, ⟨n2, hw2⟩⟩
  rw [HH.out]
  have hrb : w2.heap[w.heap.size]? = some (.cells #[.int .i64 0, .int .i64 0, .int .i64 0] 27 (0, 0)) := by rw [hw2]; exact HRB.out
  have HD2 : Aside0 (Dsk w2 g (tickD s now)) := ⟨by rw [hw2]; exact HD1.out⟩
  have HO2 : Aside0 (Only w w2 g) := ⟨by rw [hw2]; exact HO1.out⟩
  have hrl := lt_of_block hrb
  have hr0 : w2.cell? ⟨w.heap.size, 0, none⟩ = some (.int .i64 0) := (blk_cell hrb 0).trans rfl
  have hr1 : w2.cell? ⟨w.heap.size, 1, none⟩ = some (.int .i64 0) := (blk_cell hrb 1).trans rfl
  have hr2 : w2.cell? ⟨w.heap.size, 2, none⟩ = some (.int .i64 0) := (blk_cell hrb 2).trans rfl
  have hf0 := blk_frozen hrb 0
  have hf1 := blk_frozen hrb 1
  have hf2 := blk_frozen hrb 2
  clear hw2 HD1 HO1 HRB hrb
  go_wp2_with fail
  refine bodyPost_ret (v := .tuple #[.agg #[.int .i64 0, .int .i64 0, .int .i64 0], .int .i64 7]) (by simp [results, Try.results10, go_sem, hrl, hr0, hr1, hr2]) rfl ⟨rfl, ?_, ?_⟩
  · exact ((HD2.out.other (p := ⟨w.heap.size, 0, none⟩) hne).other (p := ⟨w.heap.size, 1, none⟩) hne).other (p := ⟨w.heap.size, 2, none⟩) hne
  · exact ((HO2.out.setNew (Nat.le_refl _) 0 _).setNew (Nat.le_refl _) 1 _).setNew (Nat.le_refl _) 2 _
set_option maxHeartbeats 2000000 in
set_option maxRecDepth 100000 in
theorem renew_no2 (g : Nat) (s : Dk) (now tk long : Int) (i : Nat) (hi : i < 256) (hl0 : 1 ≤ long) (hl1 : long ≤ 1099511627776) (w : World) (hD : Dsk w g s) (hh : heldB (tickD s now) i = true) (ht : ¬ s.tok i = tk) :
    Calls Try.prog 10 #[.pointer (some ⟨g, 0, none⟩), .int .i64 now, .int .i64 (i : Int), .int .i64 tk, .int .i64 long] w fun e w' =>
      e = .returned (.tuple #[hold 0 0 0, .int .i64 7]) ∧ Dsk w' g (tickD s now) ∧ Only w w' g := by
  have ht3 : (s.tok i != tk) = true := by simp [ht]
  have ht4 : (s.tok i == tk) = false := by simp [ht]
  clear ht
  have HD := Aside0.mk hD
  have HH := Aside0.mk hh
  have hlt := hD.lt
  clear hD hh
  go_enter Try.func10, Try.ntmps10
  go_wp2_with fail
  refine (at_any g s now i hi _ (HD.out.alloc _)).mono ?_
  rintro e w1 ⟨rfl, hD1, hg1⟩
  have HD1 := Aside0.mk hD1
  have HB1 := Aside0.mk (hg1.block w.heap.size (by simp) (by simp; omega))
  have HO1 : Aside0 (Only w w1 g) := ⟨((Only.refl w g).alloc _).trans (Only.of_grown hg1)⟩
  have HRB := Aside0.mk (HB1.out.trans (heap_alloc_new w (.cells #[.int .i64 0, .int .i64 0, .int .i64 0] 27)))
  have hne : g ≠ w.heap.size := by omega
  clear hD1 hg1 HB1 HD
  go_wp2_with fail
  refine (held_any g (tickD s now) i hi w1 HD1.out).mono ?_
  rintro e w2 ⟨rfl, ⟨n2, hw2⟩⟩
  rw [HH.out]
  have hrb : w2.heap[w.heap.size]? = some (.cells #[.int .i64 0, .int .i64 0, .int .i64 0] 27 (0, 0)) := by rw [hw2]; exact HRB.out
  have HD2 : Aside0 (Dsk w2 g (tickD s now)) := ⟨by rw [hw2]; exact HD1.out⟩
  have HO2 : Aside0 (Only w w2 g) := ⟨by rw [hw2]; exact HO1.out⟩
  have hrl := lt_of_block hrb
  have hr0 : w2.cell? ⟨w.heap.size, 0, none⟩ = some (.int .i64 0) := (blk_cell hrb 0).trans rfl
  have hr1 : w2.cell? ⟨w.heap.size, 1, none⟩ = some (.int .i64 0) := (blk_cell hrb 1).trans rfl
  have hr2 : w2.cell? ⟨w.heap.size, 2, none⟩ = some (.int .i64 0) := (blk_cell hrb 2).trans rfl
  have hf0 := blk_frozen hrb 0
  have hf1 := blk_frozen hrb 1
  have hf2 := blk_frozen hrb 2
  clear hw2 HD1 HO1 HRB hrb
  have hx0 : w2.cell? ⟨g, 2 + i * 3, none⟩ = some (.int .i64 (s.who i)) := HD2.out.who hi
  have hx1 : w2.cell? ⟨g, 2 + i * 3 + 1, none⟩ = some (.int .i64 (s.tok i)) := HD2.out.tok hi
  have hx2 : w2.cell? ⟨g, 2 + i * 3 + 2, none⟩ = some (.int .i64 (s.en i)) := HD2.out.en hi
  have hx3 : w2.cell? ⟨g, 770 + i, none⟩ = some (.bool (s.giv i)) := HD2.out.giv hi
  have hx5 := HD2.out.now
  have hi2 : (i : Int) < 256 := by omega
  have hi0 : (0 : Int) ≤ (i : Int) := by omega
  have hk2 := HD2.out.frozen (2 + i * 3 + 2)
  have hk3 := HD2.out.frozen (770 + i)
  go_wp2_with fail
  refine bodyPost_ret (v := .tuple #[.agg #[.int .i64 0, .int .i64 0, .int .i64 0], .int .i64 7]) (by simp [results, Try.results10, go_sem, hrl, hr0, hr1, hr2]) rfl ⟨rfl, ?_, ?_⟩
  · exact ((HD2.out.other (p := ⟨w.heap.size, 0, none⟩) hne).other (p := ⟨w.heap.size, 1, none⟩) hne).other (p := ⟨w.heap.size, 2, none⟩) hne
  · exact ((HO2.out.setNew (Nat.le_refl _) 0 _).setNew (Nat.le_refl _) 1 _).setNew (Nat.le_refl _) 2 _
set_option maxHeartbeats 2000000 in
set_option maxRecDepth 100000 in
theorem renew_yes (g : Nat) (s : Dk) (now tk long : Int) (i : Nat) (hi : i < 256) (hl0 : 1 ≤ long) (hl1 : long ≤ 1099511627776) (w : World) (hD : Dsk w g s) (hh : heldB (tickD s now) i = true) (ht : s.tok i = tk) :
    Calls Try.prog 10 #[.pointer (some ⟨g, 0, none⟩), .int .i64 now, .int .i64 (i : Int), .int .i64 tk, .int .i64 long] w fun e w' =>
      e = .returned (.tuple #[hold (s.who i) (s.tok i) (mx (s.en i) (addI (tickD s now).now long)), .int .i64 0]) ∧ Dsk w' g (renewS (tickD s now) i long) ∧ Only w w' g := by
  have ht3 : (s.tok i != tk) = false := by simp [ht]
  have ht4 : (s.tok i == tk) = true := by simp [ht]
  clear ht
  obtain ⟨ad, had⟩ : ∃ ad, addI (tickD s now).now long = ad := ⟨_, rfl⟩
  have HA := Aside0.mk had
  rw [had]
  clear had
  have HD := Aside0.mk hD
  have HH := Aside0.mk hh
  have hlt := hD.lt
  clear hD hh
  go_enter Try.func10, Try.ntmps10
  go_wp2_with fail
  refine (at_any g s now i hi _ (HD.out.alloc _)).mono ?_
  rintro e w1 ⟨rfl, hD1, hg1⟩
  have HD1 := Aside0.mk hD1
  have HB1 := Aside0.mk (hg1.block w.heap.size (by simp) (by simp; omega))
  have HO1 : Aside0 (Only w w1 g) := ⟨((Only.refl w g).alloc _).trans (Only.of_grown hg1)⟩
  have HRB := Aside0.mk (HB1.out.trans (heap_alloc_new w (.cells #[.int .i64 0, .int .i64 0, .int .i64 0] 27)))
  have hne : g ≠ w.heap.size := by omega
  clear hD1 hg1 HB1 HD
  go_wp2_with fail
  refine (held_any g (tickD s now) i hi w1 HD1.out).mono ?_
  rintro e w2 ⟨rfl, ⟨n2, hw2⟩⟩
  rw [HH.out]
  have hrb : w2.heap[w.heap.size]? = some (.cells #[.int .i64 0, .int .i64 0, .int .i64 0] 27 (0, 0)) := by rw [hw2]; exact HRB.out
  have HD2 : Aside0 (Dsk w2 g (tickD s now)) := ⟨by rw [hw2]; exact HD1.out⟩
  have HO2 : Aside0 (Only w w2 g) := ⟨by rw [hw2]; exact HO1.out⟩
  have hrl := lt_of_block hrb
  have hr0 : w2.cell? ⟨w.heap.size, 0, none⟩ = some (.int .i64 0) := (blk_cell hrb 0).trans rfl
  have hr1 : w2.cell? ⟨w.heap.size, 1, none⟩ = some (.int .i64 0) := (blk_cell hrb 1).trans rfl
  have hr2 : w2.cell? ⟨w.heap.size, 2, none⟩ = some (.int .i64 0) := (blk_cell hrb 2).trans rfl
  have hf0 := blk_frozen hrb 0
  have hf1 := blk_frozen hrb 1
  have hf2 := blk_frozen hrb 2
  clear hw2 HD1 HO1 HRB hrb
  have hx0 : w2.cell? ⟨g, 2 + i * 3, none⟩ = some (.int .i64 (s.who i)) := HD2.out.who hi
  have hx1 : w2.cell? ⟨g, 2 + i * 3 + 1, none⟩ = some (.int .i64 (s.tok i)) := HD2.out.tok hi
  have hx2 : w2.cell? ⟨g, 2 + i * 3 + 2, none⟩ = some (.int .i64 (s.en i)) := HD2.out.en hi
  have hx3 : w2.cell? ⟨g, 770 + i, none⟩ = some (.bool (s.giv i)) := HD2.out.giv hi
  have hx5 := HD2.out.now
  have hi2 : (i : Int) < 256 := by omega
  have hi0 : (0 : Int) ≤ (i : Int) := by omega
  have hk2 := HD2.out.frozen (2 + i * 3 + 2)
  have hk3 := HD2.out.frozen (770 + i)
  go_wp2_with fail
  go_region_with (go_at_call 18; refine (add_any _ _ _).mono ?_; rintro e w3 ⟨rfl, ⟨n3, rfl⟩⟩; rw [HA.out])
  all_goals
    go_wp2_with fail
    all_goals
      first
      | (have em : mx (s.en i) ad = ad := by unfold mx; first | rw [if_pos (by assumption)] | rw [if_neg (by omega)]
         have EM := Aside0.mk em
         clear em
         refine bodyPost_ret (v := .tuple #[.agg #[.int .i64 (s.who i), .int .i64 (s.tok i), .int .i64 (ad)], .int .i64 0]) (by simp [results, Try.results10, go_sem, hrl, hr0, hr1, hr2]) rfl ⟨by rw [EM.out]; rfl, ?_, ?_⟩)
      | (have em : mx (s.en i) ad = s.en i := by unfold mx; first | rw [if_pos (by assumption)] | rw [if_neg (by omega)]
         have EM := Aside0.mk em
         clear em
         refine bodyPost_ret (v := .tuple #[.agg #[.int .i64 (s.who i), .int .i64 (s.tok i), .int .i64 (s.en i)], .int .i64 0]) (by simp [results, Try.results10, go_sem, hrl, hr0, hr1, hr2]) rfl ⟨by rw [EM.out]; rfl, ?_, ?_⟩)
      · refine ((((((HD2.out.drewN _).setEn hi _).other (p := ⟨w.heap.size, 0, none⟩) hne).other (p := ⟨w.heap.size, 1, none⟩) hne).other (p := ⟨w.heap.size, 2, none⟩) hne)).to ?_
        unfold renewS
        rw [HA.out]
        show _ = ({ tickD s now with en := up (tickD s now).en i (mx (s.en i) ad) } : Dk)
        rw [EM.out]
      · exact ((((HO2.out.drewN _).setG _ _).setNew (Nat.le_refl _) 0 _).setNew (Nat.le_refl _) 1 _).setNew (Nat.le_refl _) 2 _
set_option maxHeartbeats 2000000 in
set_option maxRecDepth 100000 in
theorem give_no1 (g : Nat) (s : Dk) (now tk : Int) (i : Nat) (hi : i < 256) (w : World) (hD : Dsk w g s) (hh : heldB (tickD s now) i = false) :
    Calls Try.prog 11 #[.pointer (some ⟨g, 0, none⟩), .int .i64 now, .int .i64 (i : Int), .int .i64 tk] w fun e w' =>
      e = .returned (.int .i64 7) ∧ Dsk w' g (tickD s now) ∧ Only w w' g := by
  have HD := Aside0.mk hD
  have HH := Aside0.mk hh
  have hlt := hD.lt
  clear hD hh
  go_enter Try.func11, Try.ntmps11
  go_wp2_with fail
  refine (at_any g s now i hi _ HD.out).mono ?_
  rintro e w1 ⟨rfl, hD1, hg1⟩
  have HD1 := Aside0.mk hD1
  have HO1 : Aside0 (Only w w1 g) := ⟨Only.of_grown hg1⟩
  clear hD1 hg1 HD
  go_wp2_with fail
  refine (held_any g (tickD s now) i hi w1 HD1.out).mono ?_
  rintro e w2 ⟨rfl, ⟨n2, hw2⟩⟩
  rw [HH.out]
  have HD2 : Aside0 (Dsk w2 g (tickD s now)) := ⟨by rw [hw2]; exact HD1.out⟩
  have HO2 : Aside0 (Only w w2 g) := ⟨by rw [hw2]; exact HO1.out⟩
  clear hw2 HD1 HO1
  go_wp2_with fail
  go_ret
  exact ⟨rfl, HD2.out, HO2.out⟩
set_option maxHeartbeats 2000000 in
set_option maxRecDepth 100000 in
theorem give_no2 (g : Nat) (s : Dk) (now tk : Int) (i : Nat) (hi : i < 256) (w : World) (hD : Dsk w g s) (hh : heldB (tickD s now) i = true) (ht : ¬ s.tok i = tk) :
    Calls Try.prog 11 #[.pointer (some ⟨g, 0, none⟩), .int .i64 now, .int .i64 (i : Int), .int .i64 tk] w fun e w' =>
      e = .returned (.int .i64 7) ∧ Dsk w' g (tickD s now) ∧ Only w w' g := by
  have ht3 : (s.tok i != tk) = true := by simp [ht]
  have ht4 : (s.tok i == tk) = false := by simp [ht]
  clear ht
  have HD := Aside0.mk hD
  have HH := Aside0.mk hh
  have hlt := hD.lt
  clear hD hh
  go_enter Try.func11, Try.ntmps11
  go_wp2_with fail
  refine (at_any g s now i hi _ HD.out).mono ?_
  rintro e w1 ⟨rfl, hD1, hg1⟩
  have HD1 := Aside0.mk hD1
  have HO1 : Aside0 (Only w w1 g) := ⟨Only.of_grown hg1⟩
  clear hD1 hg1 HD
  go_wp2_with fail
  refine (held_any g (tickD s now) i hi w1 HD1.out).mono ?_
  rintro e w2 ⟨rfl, ⟨n2, hw2⟩⟩
  rw [HH.out]
  have HD2 : Aside0 (Dsk w2 g (tickD s now)) := ⟨by rw [hw2]; exact HD1.out⟩
  have HO2 : Aside0 (Only w w2 g) := ⟨by rw [hw2]; exact HO1.out⟩
  clear hw2 HD1 HO1
  have hx0 : w2.cell? ⟨g, 2 + i * 3, none⟩ = some (.int .i64 (s.who i)) := HD2.out.who hi
  have hx1 : w2.cell? ⟨g, 2 + i * 3 + 1, none⟩ = some (.int .i64 (s.tok i)) := HD2.out.tok hi
  have hx2 : w2.cell? ⟨g, 2 + i * 3 + 2, none⟩ = some (.int .i64 (s.en i)) := HD2.out.en hi
  have hx3 : w2.cell? ⟨g, 770 + i, none⟩ = some (.bool (s.giv i)) := HD2.out.giv hi
  have hx5 := HD2.out.now
  have hi2 : (i : Int) < 256 := by omega
  have hi0 : (0 : Int) ≤ (i : Int) := by omega
  have hk2 := HD2.out.frozen (2 + i * 3 + 2)
  have hk3 := HD2.out.frozen (770 + i)
  go_wp2_with fail
  go_ret
  exact ⟨rfl, HD2.out, HO2.out⟩
set_option maxHeartbeats 2000000 in
set_option maxRecDepth 100000 in
theorem give_yes (g : Nat) (s : Dk) (now tk : Int) (i : Nat) (hi : i < 256) (w : World) (hD : Dsk w g s) (hh : heldB (tickD s now) i = true) (ht : s.tok i = tk) :
    Calls Try.prog 11 #[.pointer (some ⟨g, 0, none⟩), .int .i64 now, .int .i64 (i : Int), .int .i64 tk] w fun e w' =>
      e = .returned (.int .i64 0) ∧ Dsk w' g (giveS (tickD s now) i) ∧ Only w w' g := by
  have ht3 : (s.tok i != tk) = false := by simp [ht]
  have ht4 : (s.tok i == tk) = true := by simp [ht]
  clear ht
  have HD := Aside0.mk hD
  have HH := Aside0.mk hh
  have hlt := hD.lt
  clear hD hh
  go_enter Try.func11, Try.ntmps11
  go_wp2_with fail
  refine (at_any g s now i hi _ HD.out).mono ?_
  rintro e w1 ⟨rfl, hD1, hg1⟩
  have HD1 := Aside0.mk hD1
  have HO1 : Aside0 (Only w w1 g) := ⟨Only.of_grown hg1⟩
  clear hD1 hg1 HD
  go_wp2_with fail
  refine (held_any g (tickD s now) i hi w1 HD1.out).mono ?_
  rintro e w2 ⟨rfl, ⟨n2, hw2⟩⟩
  rw [HH.out]
  have HD2 : Aside0 (Dsk w2 g (tickD s now)) := ⟨by rw [hw2]; exact HD1.out⟩
  have HO2 : Aside0 (Only w w2 g) := ⟨by rw [hw2]; exact HO1.out⟩
  clear hw2 HD1 HO1
  have hx0 : w2.cell? ⟨g, 2 + i * 3, none⟩ = some (.int .i64 (s.who i)) := HD2.out.who hi
  have hx1 : w2.cell? ⟨g, 2 + i * 3 + 1, none⟩ = some (.int .i64 (s.tok i)) := HD2.out.tok hi
  have hx2 : w2.cell? ⟨g, 2 + i * 3 + 2, none⟩ = some (.int .i64 (s.en i)) := HD2.out.en hi
  have hx3 : w2.cell? ⟨g, 770 + i, none⟩ = some (.bool (s.giv i)) := HD2.out.giv hi
  have hx5 := HD2.out.now
  have hi2 : (i : Int) < 256 := by omega
  have hi0 : (0 : Int) ≤ (i : Int) := by omega
  have hk2 := HD2.out.frozen (2 + i * 3 + 2)
  have hk3 := HD2.out.frozen (770 + i)
  go_wp2_with fail
  go_ret
  exact ⟨rfl, HD2.out.setGiv hi _, HO2.out.setG _ _⟩
set_option maxHeartbeats 2000000 in
set_option maxRecDepth 100000 in
theorem right_yes (g : Nat) (s : Dk) (now tk : Int) (i : Nat) (hi : i < 256) (w : World) (hD : Dsk w g s) (hh : heldB (tickD s now) i = true) :
    Calls Try.prog 12 #[.pointer (some ⟨g, 0, none⟩), .int .i64 now, .int .i64 (i : Int), .int .i64 tk] w fun e w' =>
      e = .returned (.bool (decide (s.tok i = tk))) ∧ Dsk w' g (tickD s now) ∧ Only w w' g := by
  have HD := Aside0.mk hD
  have HH := Aside0.mk hh
  have hlt := hD.lt
  clear hD hh
  have he : (s.tok i == tk) = decide (s.tok i = tk) := by rw [Bool.eq_iff_iff]; simp
  go_enter Try.func12, Try.ntmps12
  go_wp2_with fail
  refine (of_yes g s now i hi _ HD.out HH.out).mono ?_
  rintro e w1 ⟨rfl, hD1, hO1⟩
  have HD1 := Aside0.mk hD1
  have HO1 := Aside0.mk hO1
  clear hD1 hO1
  unfold hold
  go_wp2_with fail
  go_ret
  exact ⟨rfl, HD1.out.alloc _, HO1.out.alloc _⟩
set_option maxHeartbeats 2000000 in
set_option maxRecDepth 100000 in
theorem right_no (g : Nat) (s : Dk) (now tk : Int) (i : Nat) (hi : i < 256) (w : World) (hD : Dsk w g s) (hh : heldB (tickD s now) i = false) :
    Calls Try.prog 12 #[.pointer (some ⟨g, 0, none⟩), .int .i64 now, .int .i64 (i : Int), .int .i64 tk] w fun e w' =>
      e = .returned (.bool false) ∧ Dsk w' g (tickD s now) ∧ Only w w' g := by
  have HD := Aside0.mk hD
  have HH := Aside0.mk hh
  have hlt := hD.lt
  clear hD hh
  go_enter Try.func12, Try.ntmps12
  go_wp2_with fail
  refine (of_no g s now i hi _ HD.out HH.out).mono ?_
  rintro e w1 ⟨rfl, hD1, hO1⟩
  have HD1 := Aside0.mk hD1
  have HO1 := Aside0.mk hO1
  clear hD1 hO1
  unfold hold
  go_wp2_with fail
  go_ret
  exact ⟨rfl, HD1.out.alloc _, HO1.out.alloc _⟩
end Go.Proofs.Ytdibbcmfgdgdfaa.Le
