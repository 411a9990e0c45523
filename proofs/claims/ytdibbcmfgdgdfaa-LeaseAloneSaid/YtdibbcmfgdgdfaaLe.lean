import Derived.Test.YtdibbcmfgdgdfaaLd
namespace Go.Proofs.Ytdibbcmfgdgdfaa.Le
open Go.RowKit Go.Proofs.YtdibbcmfgdgdfaaW.PrintWords Go.Proofs.YtdibbcmfgdgdfaaW.PrintLast Go.Proofs.YtdibbcmfgdgdfaaW.PrintMore
open PLe
attribute [local go_sem] max2_int min2_int max_two min_two max_three min_three max_four min_four
set_option linter.unusedVariables false
set_option linter.unusedSimpArgs false

theorem sub_q (a b : Int) (w : World) : Calls Try.prog 17 #[.int .i64 a, .int .i64 b] w fun e w' => e = .returned (.int .i64 (subI a b)) ∧ ∃ m, w' = w.drewN m := (sub_any a b w).mono fun _ _ ⟨h, k⟩ => ⟨h, k.out⟩
theorem add_q (a b : Int) (w : World) : Calls Try.prog 18 #[.int .i64 a, .int .i64 b] w fun e w' => e = .returned (.int .i64 (addI a b)) ∧ ∃ m, w' = w.drewN m := (add_any a b w).mono fun _ _ ⟨h, k⟩ => ⟨h, k.out⟩
/-- is a thing busy, for somebody? -/
def takeB (s : Dk) (i : Nat) (who : Int) : Bool := heldB s i || (!s.giv i && (!decide (s.who i = who) && decide (subI s.now (s.en i) < s.grace)))
def takeS (s : Dk) (i : Nat) (who long : Int) : Dk := { s with who := up s.who i who, tok := up s.tok i (s.tok i + 1), en := up s.en i (addI s.now long), giv := up s.giv i false }

set_option maxHeartbeats 2000000 in
set_option maxRecDepth 100000 in
theorem take_held (g : Nat) (s : Dk) (now who long : Int) (i : Nat) (hi : i < 256) (hw : 1 ≤ who) (hl0 : 1 ≤ long) (hl1 : long ≤ 1099511627776) (w : World) (hD : Dsk w g s) (hh : heldB (tickD s now) i = true) :
    Calls Try.prog 9 #[.pointer (some ⟨g, 0, none⟩), .int .i64 now, .int .i64 (i : Int), .int .i64 who, .int .i64 long] w fun e w' =>
      e = .returned (.tuple #[hold 0 0 0, .int .i64 9]) ∧ Dsk w' g (tickD s now) ∧ Only w w' g := by
  have HD := Aside0.mk hD
  have hlt := hD.lt
  clear hD
  have HH := Aside0.mk hh
  clear hh
  go_enter Try.func9, Try.ntmps9
  go_wp2_with fail
  refine (at_any g s now i hi _ (HD.out.alloc _)).mono ?_
  rintro e w1 ⟨rfl, hD1, hg1⟩
  have HD1 := Aside0.mk hD1
  have HB1 := Aside0.mk (hg1.block w.heap.size (by simp) (by simp; omega))
  have HO1 : Aside0 (Only w w1 g) := ⟨((Only.refl w g).alloc _).trans (Only.of_grown hg1)⟩
  have HRB := Aside0.mk (HB1.out.trans (heap_alloc_new w (.cells #[.int .i64 0, .int .i64 0, .int .i64 0] 27)))
  have hne : g ≠ w.heap.size := by omega
  clear hD1 hg1 HB1 HD
  go_wp2_with fail
  refine (held_any g (tickD s now) i hi w1 HD1.out).mono ?_
  rintro e w2 ⟨rfl, ⟨n2, hw2⟩⟩
  rw [HH.out]
  have hrb : w2.heap[w.heap.size]? = some (.cells #[.int .i64 0, .int .i64 0, .int .i64 0] 27 (0, 0)) := by rw [hw2]; exact HRB.out
  have HD2 : Aside0 (Dsk w2 g (tickD s now)) := ⟨by rw [hw2]; exact HD1.out⟩
  have HO2 : Aside0 (Only w w2 g) := ⟨by rw [hw2]; exact HO1.out⟩
  have hrl := lt_of_block hrb
  have hr0 : w2.cell? ⟨w.heap.size, 0, none⟩ = some (.int .i64 0) := (blk_cell hrb 0).trans rfl
  have hr1 : w2.cell? ⟨w.heap.size, 1, none⟩ = some (.int .i64 0) := (blk_cell hrb 1).trans rfl
  have hr2 : w2.cell? ⟨w.heap.size, 2, none⟩ = some (.int .i64 0) := (blk_cell hrb 2).trans rfl
  have hf0 := blk_frozen hrb 0
  have hf1 := blk_frozen hrb 1
  have hf2 := blk_frozen hrb 2
  clear hw2 HD1 HO1 HRB hrb
  go_wp2_with fail
  refine bodyPost_ret (v := .tuple #[.agg #[.int .i64 0, .int .i64 0, .int .i64 0], .int .i64 9]) (by simp [results, Try.results9, go_sem, hrl, hr0, hr1, hr2]) rfl ⟨rfl, ?_, ?_⟩
  · exact ((HD2.out.other (p := ⟨w.heap.size, 0, none⟩) hne).other (p := ⟨w.heap.size, 1, none⟩) hne).other (p := ⟨w.heap.size, 2, none⟩) hne
  · exact ((HO2.out.setNew (Nat.le_refl _) 0 _).setNew (Nat.le_refl _) 1 _).setNew (Nat.le_refl _) 2 _
set_option maxHeartbeats 2000000 in
set_option maxRecDepth 100000 in
theorem take_grace (g : Nat) (s : Dk) (now who long : Int) (i : Nat) (hi : i < 256) (hw : 1 ≤ who) (hl0 : 1 ≤ long) (hl1 : long ≤ 1099511627776) (w : World) (hD : Dsk w g s) (hh : heldB (tickD s now) i = false) (hg : s.giv i = false) (hw2 : ¬ s.who i = who) (hs : subI (tickD s now).now (s.en i) < s.grace) :
    Calls Try.prog 9 #[.pointer (some ⟨g, 0, none⟩), .int .i64 now, .int .i64 (i : Int), .int .i64 who, .int .i64 long] w fun e w' =>
      e = .returned (.tuple #[hold 0 0 0, .int .i64 9]) ∧ Dsk w' g (tickD s now) ∧ Only w w' g := by
  have HD := Aside0.mk hD
  have hlt := hD.lt
  clear hD
  have HH := Aside0.mk hh
  clear hh
  go_enter Try.func9, Try.ntmps9
  go_wp2_with fail
  refine (at_any g s now i hi _ (HD.out.alloc _)).mono ?_
  rintro e w1 ⟨rfl, hD1, hg1⟩
  have HD1 := Aside0.mk hD1
  have HB1 := Aside0.mk (hg1.block w.heap.size (by simp) (by simp; omega))
  have HO1 : Aside0 (Only w w1 g) := ⟨((Only.refl w g).alloc _).trans (Only.of_grown hg1)⟩
  have HRB := Aside0.mk (HB1.out.trans (heap_alloc_new w (.cells #[.int .i64 0, .int .i64 0, .int .i64 0] 27)))
  have hne : g ≠ w.heap.size := by omega
  clear hD1 hg1 HB1 HD
  go_wp2_with fail
  refine (held_any g (tickD s now) i hi w1 HD1.out).mono ?_
  rintro e w2 ⟨rfl, ⟨n2, hw2⟩⟩
  rw [HH.out]
  have hrb : w2.heap[w.heap.size]? = some (.cells #[.int .i64 0, .int .i64 0, .int .i64 0] 27 (0, 0)) := by rw [hw2]; exact HRB.out
  have HD2 : Aside0 (Dsk w2 g (tickD s now)) := ⟨by rw [hw2]; exact HD1.out⟩
  have HO2 : Aside0 (Only w w2 g) := ⟨by rw [hw2]; exact HO1.out⟩
  have hrl := lt_of_block hrb
  have hr0 : w2.cell? ⟨w.heap.size, 0, none⟩ = some (.int .i64 0) := (blk_cell hrb 0).trans rfl
  have hr1 : w2.cell? ⟨w.heap.size, 1, none⟩ = some (.int .i64 0) := (blk_cell hrb 1).trans rfl
  have hr2 : w2.cell? ⟨w.heap.size, 2, none⟩ = some (.int .i64 0) := (blk_cell hrb 2).trans rfl
  have hf0 := blk_frozen hrb 0
  have hf1 := blk_frozen hrb 1
  have hf2 := blk_frozen hrb 2
  clear hw2 HD1 HO1 HRB hrb
  have hx0 : w2.cell? ⟨g, 2 + i * 3, none⟩ = some (.int .i64 (s.who i)) := HD2.out.who hi
  have hx1 : w2.cell? ⟨g, 2 + i * 3 + 1, none⟩ = some (.int .i64 (s.tok i)) := HD2.out.tok hi
  have hx2 : w2.cell? ⟨g, 2 + i * 3 + 2, none⟩ = some (.int .i64 (s.en i)) := HD2.out.en hi
  have hx3 : w2.cell? ⟨g, 770 + i, none⟩ = some (.bool (s.giv i)) := HD2.out.giv hi
  have hx4 : w2.cell? ⟨g, 0, none⟩ = some (.int .i64 s.grace) := HD2.out.grace
  have hx5 := HD2.out.now
  have hk0 := HD2.out.frozen (2 + i * 3)
  have hk1 := HD2.out.frozen (2 + i * 3 + 1)
  have hk2 := HD2.out.frozen (2 + i * 3 + 2)
  have hk3 := HD2.out.frozen (770 + i)
  have hi2 : (i : Int) < 256 := by omega
  have hi0 : (0 : Int) ≤ (i : Int) := by omega
  rw [hg] at hx3
  have hw3 : (s.who i != who) = true := by simp [hw2]
  have hw4 : (s.who i == who) = false := by simp [hw2]
  have hs2 : decide (subI (tickD s now).now (s.en i) < s.grace) = true := decide_eq_true hs
  clear hw2 hs hg
  go_wp2_with fail
  go_quiet ((go_at_call 17; exact Calls.quiet_of (sub_q _ _ _)))
  go_wp2_with fail
  refine bodyPost_ret (v := .tuple #[.agg #[.int .i64 0, .int .i64 0, .int .i64 0], .int .i64 9]) (by simp [results, Try.results9, go_sem, hrl, hr0, hr1, hr2]) rfl ⟨rfl, ?_, ?_⟩
  · exact (((HD2.out.drewN _).other (p := ⟨w.heap.size, 0, none⟩) hne).other (p := ⟨w.heap.size, 1, none⟩) hne).other (p := ⟨w.heap.size, 2, none⟩) hne
  · exact (((HO2.out.drewN _).setNew (Nat.le_refl _) 0 _).setNew (Nat.le_refl _) 1 _).setNew (Nat.le_refl _) 2 _
set_option maxHeartbeats 2000000 in
set_option maxRecDepth 100000 in
theorem take_given (g : Nat) (s : Dk) (now who long : Int) (i : Nat) (hi : i < 256) (hw : 1 ≤ who) (hl0 : 1 ≤ long) (hl1 : long ≤ 1099511627776) (w : World) (hD : Dsk w g s) (hh : heldB (tickD s now) i = false) (hg : s.giv i = true) (ht : 0 ≤ s.tok i ∧ s.tok i ≤ 1000000) :
    Calls Try.prog 9 #[.pointer (some ⟨g, 0, none⟩), .int .i64 now, .int .i64 (i : Int), .int .i64 who, .int .i64 long] w fun e w' =>
      e = .returned (.tuple #[hold who (s.tok i + 1) (addI (tickD s now).now long), .int .i64 0]) ∧ Dsk w' g (takeS (tickD s now) i who long) ∧ Only w w' g := by
  have HD := Aside0.mk hD
  have hlt := hD.lt
  clear hD
  have HH := Aside0.mk hh
  clear hh
  go_enter Try.func9, Try.ntmps9
  go_wp2_with fail
  refine (at_any g s now i hi _ (HD.out.alloc _)).mono ?_
  rintro e w1 ⟨rfl, hD1, hg1⟩
  have HD1 := Aside0.mk hD1
  have HB1 := Aside0.mk (hg1.block w.heap.size (by simp) (by simp; omega))
  have HO1 : Aside0 (Only w w1 g) := ⟨((Only.refl w g).alloc _).trans (Only.of_grown hg1)⟩
  have HRB := Aside0.mk (HB1.out.trans (heap_alloc_new w (.cells #[.int .i64 0, .int .i64 0, .int .i64 0] 27)))
  have hne : g ≠ w.heap.size := by omega
  clear hD1 hg1 HB1 HD
  go_wp2_with fail
  refine (held_any g (tickD s now) i hi w1 HD1.out).mono ?_
  rintro e w2 ⟨rfl, ⟨n2, hw2⟩⟩
  rw [HH.out]
  have hrb : w2.heap[w.heap.size]? = some (.cells #[.int .i64 0, .int .i64 0, .int .i64 0] 27 (0, 0)) := by rw [hw2]; exact HRB.out
  have HD2 : Aside0 (Dsk w2 g (tickD s now)) := ⟨by rw [hw2]; exact HD1.out⟩
  have HO2 : Aside0 (Only w w2 g) := ⟨by rw [hw2]; exact HO1.out⟩
  have hrl := lt_of_block hrb
  have hr0 : w2.cell? ⟨w.heap.size, 0, none⟩ = some (.int .i64 0) := (blk_cell hrb 0).trans rfl
  have hr1 : w2.cell? ⟨w.heap.size, 1, none⟩ = some (.int .i64 0) := (blk_cell hrb 1).trans rfl
  have hr2 : w2.cell? ⟨w.heap.size, 2, none⟩ = some (.int .i64 0) := (blk_cell hrb 2).trans rfl
  have hf0 := blk_frozen hrb 0
  have hf1 := blk_frozen hrb 1
  have hf2 := blk_frozen hrb 2
  clear hw2 HD1 HO1 HRB hrb
  have hx0 : w2.cell? ⟨g, 2 + i * 3, none⟩ = some (.int .i64 (s.who i)) := HD2.out.who hi
  have hx1 : w2.cell? ⟨g, 2 + i * 3 + 1, none⟩ = some (.int .i64 (s.tok i)) := HD2.out.tok hi
  have hx2 : w2.cell? ⟨g, 2 + i * 3 + 2, none⟩ = some (.int .i64 (s.en i)) := HD2.out.en hi
  have hx3 : w2.cell? ⟨g, 770 + i, none⟩ = some (.bool (s.giv i)) := HD2.out.giv hi
  have hx4 : w2.cell? ⟨g, 0, none⟩ = some (.int .i64 s.grace) := HD2.out.grace
  have hx5 := HD2.out.now
  have hk0 := HD2.out.frozen (2 + i * 3)
  have hk1 := HD2.out.frozen (2 + i * 3 + 1)
  have hk2 := HD2.out.frozen (2 + i * 3 + 2)
  have hk3 := HD2.out.frozen (770 + i)
  have hi2 : (i : Int) < 256 := by omega
  have hi0 : (0 : Int) ≤ (i : Int) := by omega
  rw [hg] at hx3
  clear hg
  go_wp2_with fail
  go_quiet ((go_at_call 17; exact Calls.quiet_of (sub_q _ _ _)))
  go_wp2_with fail
  go_region_with (go_at_call 18; refine (add_any _ _ _).mono ?_; rintro e w3 ⟨rfl, ⟨n3, rfl⟩⟩)
  all_goals
    go_wp2_with fail
    refine bodyPost_ret (v := .tuple #[.agg #[.int .i64 who, .int .i64 (s.tok i + 1), .int .i64 (addI (tickD s now).now long)], .int .i64 0]) (by simp [results, Try.results9, go_sem, hrl, hr0, hr1, hr2]) rfl ⟨rfl, ?_, ?_⟩
    · exact ((((((((HD2.out.drewN _).setWho hi _).setTok hi _).setEn hi _).setGiv hi _).other (p := ⟨w.heap.size, 0, none⟩) hne).other (p := ⟨w.heap.size, 1, none⟩) hne).other (p := ⟨w.heap.size, 2, none⟩) hne)
    · exact (((((((HO2.out.drewN _).setG _ _).setG _ _).setG _ _).setG _ _).setNew (Nat.le_refl _) 0 _).setNew (Nat.le_refl _) 1 _).setNew (Nat.le_refl _) 2 _
set_option maxHeartbeats 2000000 in
set_option maxRecDepth 100000 in
theorem take_same (g : Nat) (s : Dk) (now who long : Int) (i : Nat) (hi : i < 256) (hw : 1 ≤ who) (hl0 : 1 ≤ long) (hl1 : long ≤ 1099511627776) (w : World) (hD : Dsk w g s) (hh : heldB (tickD s now) i = false) (hg : s.giv i = false) (hw2 : s.who i = who) (ht : 0 ≤ s.tok i ∧ s.tok i ≤ 1000000) :
    Calls Try.prog 9 #[.pointer (some ⟨g, 0, none⟩), .int .i64 now, .int .i64 (i : Int), .int .i64 who, .int .i64 long] w fun e w' =>
      e = .returned (.tuple #[hold who (s.tok i + 1) (addI (tickD s now).now long), .int .i64 0]) ∧ Dsk w' g (takeS (tickD s now) i who long) ∧ Only w w' g := by
  have HD := Aside0.mk hD
  have hlt := hD.lt
  clear hD
  have HH := Aside0.mk hh
  clear hh
  go_enter Try.func9, Try.ntmps9
  go_wp2_with fail
  refine (at_any g s now i hi _ (HD.out.alloc _)).mono ?_
  rintro e w1 ⟨rfl, hD1, hg1⟩
  have HD1 := Aside0.mk hD1
  have HB1 := Aside0.mk (hg1.block w.heap.size (by simp) (by simp; omega))
  have HO1 : Aside0 (Only w w1 g) := ⟨((Only.refl w g).alloc _).trans (Only.of_grown hg1)⟩
  have HRB := Aside0.mk (HB1.out.trans (heap_alloc_new w (.cells #[.int .i64 0, .int .i64 0, .int .i64 0] 27)))
  have hne : g ≠ w.heap.size := by omega
  clear hD1 hg1 HB1 HD
  go_wp2_with fail
  refine (held_any g (tickD s now) i hi w1 HD1.out).mono ?_
  rintro e w2 ⟨rfl, ⟨n2, hw2⟩⟩
  rw [HH.out]
  have hrb : w2.heap[w.heap.size]? = some (.cells #[.int .i64 0, .int .i64 0, .int .i64 0] 27 (0, 0)) := by rw [hw2]; exact HRB.out
  have HD2 : Aside0 (Dsk w2 g (tickD s now)) := ⟨by rw [hw2]; exact HD1.out⟩
  have HO2 : Aside0 (Only w w2 g) := ⟨by rw [hw2]; exact HO1.out⟩
  have hrl := lt_of_block hrb
  have hr0 : w2.cell? ⟨w.heap.size, 0, none⟩ = some (.int .i64 0) := (blk_cell hrb 0).trans rfl
  have hr1 : w2.cell? ⟨w.heap.size, 1, none⟩ = some (.int .i64 0) := (blk_cell hrb 1).trans rfl
  have hr2 : w2.cell? ⟨w.heap.size, 2, none⟩ = some (.int .i64 0) := (blk_cell hrb 2).trans rfl
  have hf0 := blk_frozen hrb 0
  have hf1 := blk_frozen hrb 1
  have hf2 := blk_frozen hrb 2
  clear hw2 HD1 HO1 HRB hrb
  have hx0 : w2.cell? ⟨g, 2 + i * 3, none⟩ = some (.int .i64 (s.who i)) := HD2.out.who hi
  have hx1 : w2.cell? ⟨g, 2 + i * 3 + 1, none⟩ = some (.int .i64 (s.tok i)) := HD2.out.tok hi
  have hx2 : w2.cell? ⟨g, 2 + i * 3 + 2, none⟩ = some (.int .i64 (s.en i)) := HD2.out.en hi
  have hx3 : w2.cell? ⟨g, 770 + i, none⟩ = some (.bool (s.giv i)) := HD2.out.giv hi
  have hx4 : w2.cell? ⟨g, 0, none⟩ = some (.int .i64 s.grace) := HD2.out.grace
  have hx5 := HD2.out.now
  have hk0 := HD2.out.frozen (2 + i * 3)
  have hk1 := HD2.out.frozen (2 + i * 3 + 1)
  have hk2 := HD2.out.frozen (2 + i * 3 + 2)
  have hk3 := HD2.out.frozen (770 + i)
  have hi2 : (i : Int) < 256 := by omega
  have hi0 : (0 : Int) ≤ (i : Int) := by omega
  rw [hg] at hx3
  have hw3 : (s.who i != who) = false := by simp [hw2]
  have hw4 : (s.who i == who) = true := by simp [hw2]
  clear hw2 hg
  go_wp2_with fail
  go_quiet ((go_at_call 17; exact Calls.quiet_of (sub_q _ _ _)))
  go_wp2_with fail
  go_region_with (go_at_call 18; refine (add_any _ _ _).mono ?_; rintro e w3 ⟨rfl, ⟨n3, rfl⟩⟩)
  all_goals
    go_wp2_with fail
    refine bodyPost_ret (v := .tuple #[.agg #[.int .i64 who, .int .i64 (s.tok i + 1), .int .i64 (addI (tickD s now).now long)], .int .i64 0]) (by simp [results, Try.results9, go_sem, hrl, hr0, hr1, hr2]) rfl ⟨rfl, ?_, ?_⟩
    · exact ((((((((HD2.out.drewN _).setWho hi _).setTok hi _).setEn hi _).setGiv hi _).other (p := ⟨w.heap.size, 0, none⟩) hne).other (p := ⟨w.heap.size, 1, none⟩) hne).other (p := ⟨w.heap.size, 2, none⟩) hne)
    · exact (((((((HO2.out.drewN _).setG _ _).setG _ _).setG _ _).setG _ _).setNew (Nat.le_refl _) 0 _).setNew (Nat.le_refl _) 1 _).setNew (Nat.le_refl _) 2 _
set_option maxHeartbeats 2000000 in
set_option maxRecDepth 100000 in
theorem take_late (g : Nat) (s : Dk) (now who long : Int) (i : Nat) (hi : i < 256) (hw : 1 ≤ who) (hl0 : 1 ≤ long) (hl1 : long ≤ 1099511627776) (w : World) (hD : Dsk w g s) (hh : heldB (tickD s now) i = false) (hg : s.giv i = false) (hw2 : ¬ s.who i = who) (hs : ¬ subI (tickD s now).now (s.en i) < s.grace) (ht : 0 ≤ s.tok i ∧ s.tok i ≤ 1000000) :
    Calls Try.prog 9 #[.pointer (some ⟨g, 0, none⟩), .int .i64 now, .int .i64 (i : Int), .int .i64 who, .int .i64 long] w fun e w' =>
      e = .returned (.tuple #[hold who (s.tok i + 1) (addI (tickD s now).now long), .int .i64 0]) ∧ Dsk w' g (takeS (tickD s now) i who long) ∧ Only w w' g := by
  have HD := Aside0.mk hD
  have hlt := hD.lt
  clear hD
  have HH := Aside0.mk hh
  clear hh
  go_enter Try.func9, Try.ntmps9
  go_wp2_with fail
  refine (at_any g s now i hi _ (HD.out.alloc _)).mono ?_
  rintro e w1 ⟨rfl, hD1, hg1⟩
  have HD1 := Aside0.mk hD1
  have HB1 := Aside0.mk (hg1.block w.heap.size (by simp) (by simp; omega))
  have HO1 : Aside0 (Only w w1 g) := ⟨((Only.refl w g).alloc _).trans (Only.of_grown hg1)⟩
  have HRB := Aside0.mk (HB1.out.trans (heap_alloc_new w (.cells #[.int .i64 0, .int .i64 0, .int .i64 0] 27)))
  have hne : g ≠ w.heap.size := by omega
  clear hD1 hg1 HB1 HD
  go_wp2_with fail
  refine (held_any g (tickD s now) i hi w1 HD1.out).mono ?_
  rintro e w2 ⟨rfl, ⟨n2, hw2⟩⟩
  rw [HH.out]
  have hrb : w2.heap[w.heap.size]? = some (.cells #[.int .i64 0, .int .i64 0, .int .i64 0] 27 (0, 0)) := by rw [hw2]; exact HRB.out
  have HD2 : Aside0 (Dsk w2 g (tickD s now)) := ⟨by rw [hw2]; exact HD1.out⟩
  have HO2 : Aside0 (Only w w2 g) := ⟨by rw [hw2]; exact HO1.out⟩
  have hrl := lt_of_block hrb
  have hr0 : w2.cell? ⟨w.heap.size, 0, none⟩ = some (.int .i64 0) := (blk_cell hrb 0).trans rfl
  have hr1 : w2.cell? ⟨w.heap.size, 1, none⟩ = some (.int .i64 0) := (blk_cell hrb 1).trans rfl
  have hr2 : w2.cell? ⟨w.heap.size, 2, none⟩ = some (.int .i64 0) := (blk_cell hrb 2).trans rfl
  have hf0 := blk_frozen hrb 0
  have hf1 := blk_frozen hrb 1
  have hf2 := blk_frozen hrb 2
  clear hw2 HD1 HO1 HRB hrb
  have hx0 : w2.cell? ⟨g, 2 + i * 3, none⟩ = some (.int .i64 (s.who i)) := HD2.out.who hi
  have hx1 : w2.cell? ⟨g, 2 + i * 3 + 1, none⟩ = some (.int .i64 (s.tok i)) := HD2.out.tok hi
  have hx2 : w2.cell? ⟨g, 2 + i * 3 + 2, none⟩ = some (.int .i64 (s.en i)) := HD2.out.en hi
  have hx3 : w2.cell? ⟨g, 770 + i, none⟩ = some (.bool (s.giv i)) := HD2.out.giv hi
  have hx4 : w2.cell? ⟨g, 0, none⟩ = some (.int .i64 s.grace) := HD2.out.grace
  have hx5 := HD2.out.now
  have hk0 := HD2.out.frozen (2 + i * 3)
  have hk1 := HD2.out.frozen (2 + i * 3 + 1)
  have hk2 := HD2.out.frozen (2 + i * 3 + 2)
  have hk3 := HD2.out.frozen (770 + i)
  have hi2 : (i : Int) < 256 := by omega
  have hi0 : (0 : Int) ≤ (i : Int) := by omega
  rw [hg] at hx3
  have hw3 : (s.who i != who) = true := by simp [hw2]
  have hw4 : (s.who i == who) = false := by simp [hw2]
  have hs2 : decide (subI (tickD s now).now (s.en i) < s.grace) = false := decide_eq_false (by omega)
  clear hw2 hs hg
  go_wp2_with fail
  go_quiet ((go_at_call 17; exact Calls.quiet_of (sub_q _ _ _)))
  go_wp2_with fail
  go_region_with (go_at_call 18; refine (add_any _ _ _).mono ?_; rintro e w3 ⟨rfl, ⟨n3, rfl⟩⟩)
  all_goals
    go_wp2_with fail
    refine bodyPost_ret (v := .tuple #[.agg #[.int .i64 who, .int .i64 (s.tok i + 1), .int .i64 (addI (tickD s now).now long)], .int .i64 0]) (by simp [results, Try.results9, go_sem, hrl, hr0, hr1, hr2]) rfl ⟨rfl, ?_, ?_⟩
    · exact ((((((((HD2.out.drewN _).setWho hi _).setTok hi _).setEn hi _).setGiv hi _).other (p := ⟨w.heap.size, 0, none⟩) hne).other (p := ⟨w.heap.size, 1, none⟩) hne).other (p := ⟨w.heap.size, 2, none⟩) hne)
    · exact (((((((HO2.out.drewN _).setG _ _).setG _ _).setG _ _).setG _ _).setNew (Nat.le_refl _) 0 _).setNew (Nat.le_refl _) 1 _).setNew (Nat.le_refl _) 2 _

theorem take_busy (g : Nat) (s : Dk) (now who long : Int) (i : Nat) (hi : i < 256) (hw : 1 ≤ who) (hl0 : 1 ≤ long) (hl1 : long ≤ 1099511627776) (w : World) (hD : Dsk w g s) (hb : takeB (tickD s now) i who = true) :
    Calls Try.prog 9 #[.pointer (some ⟨g, 0, none⟩), .int .i64 now, .int .i64 (i : Int), .int .i64 who, .int .i64 long] w fun e w' =>
      e = .returned (.tuple #[hold 0 0 0, .int .i64 9]) ∧ Dsk w' g (tickD s now) ∧ Only w w' g := by
  cases hh : heldB (tickD s now) i with
  | true => exact take_held g s now who long i hi hw hl0 hl1 w hD hh
  | false =>
    unfold takeB at hb
    rw [hh] at hb
    simp only [Bool.false_or, Bool.and_eq_true, Bool.not_eq_true', decide_eq_false_iff_not, decide_eq_true_eq] at hb
    exact take_grace g s now who long i hi hw hl0 hl1 w hD hh hb.1 hb.2.1 hb.2.2
theorem take_ok (g : Nat) (s : Dk) (now who long : Int) (i : Nat) (hi : i < 256) (hw : 1 ≤ who) (hl0 : 1 ≤ long) (hl1 : long ≤ 1099511627776) (w : World) (hD : Dsk w g s) (hb : takeB (tickD s now) i who = false) (ht : 0 ≤ s.tok i ∧ s.tok i ≤ 1000000) :
    Calls Try.prog 9 #[.pointer (some ⟨g, 0, none⟩), .int .i64 now, .int .i64 (i : Int), .int .i64 who, .int .i64 long] w fun e w' =>
      e = .returned (.tuple #[hold who (s.tok i + 1) (addI (tickD s now).now long), .int .i64 0]) ∧ Dsk w' g (takeS (tickD s now) i who long) ∧ Only w w' g := by
  have hh : heldB (tickD s now) i = false := by
    cases h : heldB (tickD s now) i with
    | true => unfold takeB at hb; rw [h] at hb; simp at hb
    | false => rfl
  cases hg : s.giv i with
  | true => exact take_given g s now who long i hi hw hl0 hl1 w hD hh hg ht
  | false =>
    by_cases hw2 : s.who i = who
    · exact take_same g s now who long i hi hw hl0 hl1 w hD hh hg hw2 ht
    · refine take_late g s now who long i hi hw hl0 hl1 w hD hh hg hw2 ?_ ht
      intro hs
      unfold takeB at hb
      rw [hh] at hb
      have h1 : (tickD s now).giv i = false := hg
      have h2 : decide ((tickD s now).who i = who) = false := decide_eq_false hw2
      have h3 : decide (subI (tickD s now).now ((tickD s now).en i) < (tickD s now).grace) = true := decide_eq_true hs
      rw [h1, h2, h3] at hb
      cases hb
end Go.Proofs.Ytdibbcmfgdgdfaa.Le
